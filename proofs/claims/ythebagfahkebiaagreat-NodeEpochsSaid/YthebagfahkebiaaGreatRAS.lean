/- Texts of one road. -/
import Derived.Test.YthebagfahkebiaaGreatRAR
set_option linter.all false
set_option maxHeartbeats 8000000
set_option maxRecDepth 20000
namespace Go.Proofs.YthebagfahkebiaaGreat
open Go Go.Sl Go.Proofs.Tryz List
def QM{x:Wa}{k:Nat}{m:Mem}(hk:x.Et[k]? =some m):((x.enc).drop (0+2+((k:Nat):Int).toNat*2)).take 2=m.enc:=by
 have hlt:k<4:=(List.getElem?_eq_some_iff.1 hk).1;rcases(by omega:k=0\/k=1\/k=2\/k=3) with rfl|rfl|rfl|rfl<;>cases hk<;>rfl
def St(x:Wa):
  Ct prog 141 [.agg (List.toArray x.enc)] [] (λr H'=>∃h',ia 37 (ff x).all r h'/\H'=[h']):=by
 have h4:x.Et.length=4:=rfl;obtain⟨n,hn⟩:∃n:Nat,x.n.toNat=n:=⟨_,rfl⟩;have hall:(ff x).all=x.Et.take n++(if x.jo=true then some x.le else none).toList:=by rw[<-hn];rfl
 rw[hall];refine ce func141 λg R=>?_;repeat' first|refine rn ?_|refine Uc λ_=>?_
 rename_i b;refine W.Pe ?_;refine W.lo (α:=Nat×Value×Hp) (λy=>y.1<=n/\y.1<=4/\ia 37 (x.Et.take y.1) y.2.1 y.2.2) (λy=>[(1,b),(3,y.2.1),(4,.int .i64 (y.1:Int))]) (λy=>[y.2.2,od b x,R]) (λy=>4 - y.1) (0,.slice none 0 0,[]) ⟨di _,di _,ia.nil _⟩ ?_;rintro⟨k,v,h⟩ ⟨hk,FU,hs⟩;simp only[] at hk FU hs⊢;by_cases hlt:k<n/\k<4
 .obtain⟨paa,cV⟩:=hlt;have dL:(k:Int)<x.n:=by omega
  obtain⟨m,hm⟩:∃m,x.Et[k]? =some m:=⟨_,Wg (by omega)⟩;have Cj:=QM hm;have htl:(x.Et.take k).length<=4:=by rw[Oe];omega
  repeat' first|refine run ?_|refine WX.Ea rfl Cj rfl rfl ?_
  refine Up [m] (λv2 h2 Sa=>?_);refine Jt (zb:=by simp only[Ib,td];omega) hs Sa.rs (λv3 h3 Cc=>?_);rw[show x.Et.take k++[m]=x.Et.take (k+1) by rw[take_add_one,hm];rfl] at Cc;try refine run ?_
  exact D.rd (k+1,v3,h3) ⟨by simp only[];omega,by simp only[];omega,Cc⟩ (by simp only[];omega)
 .have Fh:x.Et.take k=x.Et.take n:=by
   rcases(by omega:k=n\/(k=4/\4<=n)) with h|⟨h,h'⟩
   .rw[h]
   .rw[h,take_of_length_le (by omega),take_of_length_le (by omega)]
  have htl:(x.Et.take n).length<=4:=by rw[Oe];omega
  rw[Fh] at hs;have hge: ¬((k:Int)<x.n/\(k:Int)<4):=by omega
  clear hlt Fh;by_cases hc:(k:Int)<x.n
  .have hc2: ¬(k:Int)<4:=λh=>hge ⟨hc,h⟩
   cases hj:x.jo with
   |false=>
    try refine run ?_
    rw[hj];try refine run ?_
    exact Xa [h] rfl rfl ⟨h,by simpa using hs,rfl⟩
   |true=>
    try refine run ?_
    rw[hj];try refine run ?_
    refine Up [x.le] (λv2 h2 Sa=>?_);refine Jt (zb:=by simp only[Ib,td];omega) hs Sa.rs (λv3 h3 Cc=>?_);try refine run ?_
    exact Xa [h3] rfl rfl ⟨h3,by simpa using Cc,rfl⟩
  .cases hj:x.jo with
   |false=>
    try refine run ?_
    rw[hj];try refine run ?_
    exact Xa [h] rfl rfl ⟨h,by simpa using hs,rfl⟩
   |true=>
    try refine run ?_
    rw[hj];try refine run ?_
    refine Up [x.le] (λv2 h2 Sa=>?_);refine Jt (zb:=by simp only[Ib,td];omega) hs Sa.rs (λv3 h3 Cc=>?_);try refine run ?_
    exact Xa [h3] rfl rfl ⟨h3,by simpa using Cc,rfl⟩
def qo(x:Wa):Ct prog 214 [.agg (List.toArray x.enc)] [] (λr H'=>r= .bool (decide (Md x))/\H'=[]):=by
 by_cases hyes:Md x
 .have h:=zv hyes.2.2;rw[hyes.2.1] at h;rw[Mi hyes];exact h
 rw[rj hyes];by_cases vk: ¬(1<=x.ep/\x.ep<=1099511627776/\1<=x.n/\x.n<=4)
 .clear hyes;refine ce func214 λg R=>?_;simp only[can];by_cases g1:x.ep<1
  .repeat' first|refine run ?_|refine Uc λ_=>?_
   exact Wi []
  by_cases g2:1099511627776<x.ep
  .repeat' first|refine run ?_|refine Uc λ_=>?_
   exact Wi []
  by_cases g3:x.n<1
  .repeat' first|refine run ?_|refine Uc λ_=>?_
   exact Wi []
  have g4:4<x.n:=by omega
  repeat' first|refine run ?_|refine Uc λ_=>?_
  exact Wi []
 obtain⟨eX,Y0,ic,OX⟩:=Classical.not_not.1 vk;clear vk;obtain⟨n,hn⟩:∃k:Nat,x.n=(k:Int):=⟨x.n.toNat,by omega⟩;have Z0:n<=4:=by omega
 have A1:=mI hn Z0;obtain⟨c,hc⟩:∃c,ff x=c:=⟨_,rfl⟩;have RX:c.ep=x.ep:=by rw[<-hc];rfl
 have Ah:c.ms.length=n:=by rw[<-hc];show(x.Et.take x.n.toNat).length=n;rw[Oe,hn];show min n 4=n;omega
 have hall:c.all.length<=5:=by
  unfold Ch.all;rw[Eb];have:c.ln.toList.length<=1:=(by cases c.ln<;>simp);omega
 have dR:=St x;rw[hc] at dR;have Sy: ¬(Tr c c.all.length/\(∀m∈x.Et.drop n,m=Mem.z)/\(x.jo=false->x.le=Mem.z)):=λ⟨q1,q2,q3⟩=>hyes ⟨⟨ic,OX⟩,A1 q2 q3,by rw[hc];exact q1.all (by rw[RX];exact eX) (by rw[RX];exact Y0) (by omega)⟩;clear hyes A1 hc;refine ce func214 λg R=>?_;repeat' first|refine rn ?_|refine Uc λ_=>?_
 rename_i b;refine ck dR ?_;rintro v _ ⟨h,hs,rfl⟩;have hr:=hs.rs;obtain⟨vp,vc,rfl⟩:=hr.len;refine rn ?_;refine W.lo (α:=Nat) (λq=>q<=c.all.length/\Tr c q) (λq=>[(1,b),(3,.slice vp c.all.length vc),(4,.int .i64 (q:Int))]) (λ_=>[h,od b x,R]) (λq=>c.all.length - q) 0 ⟨di _,λi m hi=>absurd hi (Nat.not_lt_zero _)⟩ ?_;rintro q ⟨hq,hmo⟩;by_cases hlt:q<c.all.length
 .obtain⟨m,hm⟩:=Lh hlt;by_cases r1:m.nd<0
  .try refine run ?_
   refine wr ?_;exact Wi []
  by_cases r2:4<=m.nd
  .try refine run ?_
   refine wr ?_;exact Wi []
  by_cases r3:m.sn<1
  .try refine run ?_
   refine wr ?_;exact Wi []
  by_cases r4:x.ep<m.sn
  .try refine run ?_
   refine wr ?_;exact Wi []
  try refine run ?_
  refine wr ?_;refine W.lo (α:=Nat) (λk=>k<=q/\∀(j:Nat) (m':Mem),j<k->c.all[j]? =some m'->m'.nd≠m.nd) (λk=>[(1,b),(3,.slice vp c.all.length vc),(4,.int .i64 (q:Int)),(5,.int .i64 (k:Int))]) (λ_=>[h,od b x,R]) (λk=>q - k) 0 ⟨di _,λi m hi=>absurd hi (Nat.not_lt_zero _)⟩ ?_;rintro k ⟨hk,hno⟩;by_cases hlk:k<q
  .obtain⟨y,hy⟩:∃y,c.all[k]? =some y:=⟨_,Wg (by omega)⟩;by_cases hne:y.nd=m.nd
   .try refine run ?_
    refine wr ?_;exact Wi []
   .try refine run ?_
    refine wr ?_;refine D.rd (k+1) ⟨by omega,λj m' hj hm'=>?_⟩ (by omega);rcases Nat.lt_or_ge j k with hh|hh
    .exact hno j m' hh hm'
    .obtain rfl:j=k:=by omega
     rw[hy] at hm';cases hm';exact hne
  .obtain rfl:k=q:=by omega
   try refine run ?_
   refine D.rd (k+1) ⟨by omega,λi p hi hp=>?_⟩ (by omega);rcases Nat.lt_or_ge i k with hh|hh
   .exact hmo i p hh hp
   .obtain rfl:i=k:=by omega
    rw[hm] at hp;cases hp;exact⟨⟨by omega,by omega,by omega,by rw[RX];omega⟩,hno⟩
 .obtain rfl:q=c.all.length:=by omega
  try refine run ?_
  refine W.loop (α:=Nat) (λk=>n<=k/\k<=4/\∀(i:Nat) (m:Mem),n<=i->i<k->x.Et[i]? =some m->m=Mem.z) (λk=>[(1,b),(6,.int .i64 (k:Int))]) (λ_=>[od b x,R]) (λk=>4 - k) n ⟨Nat.le_refl _,Z0,λi m h1 h2=>absurd h1 (by omega)⟩ (by rw[<-hn];exact(by repeat(first|exact Aa.nil|refine Aa.cons rfl ?_))) (Ia.qa inferInstance) ?_;rintro k ⟨hk,FU,hz⟩;by_cases hlk:k<4
  .obtain⟨m,hm⟩:∃m,x.Et[k]? =some m:=⟨_,Wg (by show k<4;exact hlk)⟩;have Cj:=QM hm;have tm:=Gq m Mem.z;by_cases BQ:m=Mem.z
   .rw[Mi BQ] at tm;repeat' first|refine run ?_|refine WX.Ea rfl Cj rfl rfl ?_|refine WX.aj rfl rfl tm rfl ?_
    refine D.rd (k+1) ⟨by omega,by omega,λi p h1 h2 hp=>?_⟩ (by omega);rcases Nat.lt_or_ge i k with hh|hh
    .exact hz i p h1 hh hp
    .obtain rfl:i=k:=by omega
     rw[hm] at hp;cases hp;exact BQ
   .rw[rj BQ] at tm;repeat' first|refine run ?_|refine WX.Ea rfl Cj rfl rfl ?_|refine WX.aj rfl rfl tm rfl ?_
    exact Wi []
  .obtain rfl:k=4:=by omega
   have nI:∀m∈x.Et.drop n,m=Mem.z:=λm hm=>by
    obtain⟨i,hi⟩:=mem_iff_getElem?.1 hm;rw[List.getElem?_drop] at hi;have:=(List.getElem?_eq_some_iff.1 hi).1;exact hz (n+i) m (by omega) this hi
   have tl:=Gq x.le Mem.z
   have hle:x.jo=false/\x.le≠Mem.z:=by
    cases hj:x.jo with
    |true=>exact absurd ⟨hmo,nI,λh=>by rw[hj] at h;cases h⟩ Sy
    |false=>exact⟨rfl,λh=>Sy ⟨hmo,nI,λ_=>h⟩⟩
   rw[rj hle.2] at tl;have hj:=hle.1;try refine run ?_
   rw[hj];repeat' first|refine run ?_|refine WX.aq rfl rfl tl rfl ?_
   exact Wi []
theorem W6:(ff Wa.z).all=[]:=rfl
def wo{o:Option Ch}(ok:Ni o)(k:Int):Ct prog 140 [.agg (List.toArray (jc o).enc),k] [] (λr H'=>r= .int .i64 (Rg (Fb o) k)/\H'=[]):=by
 cases o with
 |some c=>
  rw[show Rg (Fb (some c)) k=wG c.all k from Oy]
  exact zO (ok c rfl) k
 |none=>
  have hr:=qo Wa.z;rw[rj Wx] at hr;refine ce func140 λg R=>?_;repeat' first|refine rn ?_|refine Uc λ_=>?_|refine cq hr ?_
  exact Wi []
def xo{o:Option Ch}(ok:Ni o):Ct prog 141 [.agg (List.toArray (jc o).enc)] [] (λr H'=>∃ms h',ms.map (·.nd)=Fb o/\(∀c,o=some c->ms=c.all)/\ia 37 ms r h'/\H'=[h']):=by
 have h:=St (jc o);refine h.mono λr H' hp=>?_;obtain⟨h',hs,rfl⟩:=hp;refine⟨(ff (jc o)).all,h',?_,λc hc=>?_,hs,rfl⟩
 .cases o with
  |none=>rfl
  |some c=>rw[show jc (some c)=c.cfg from rfl,Tt (by have:=(ok c rfl).l4;omega)];rfl
 .subst hc;rw[show jc (some c)=c.cfg from rfl,Tt (by have:=(ok c rfl).l4;omega)]
def az{o:Option Ch}(ok:Ni o):Ct prog 214 [.agg (List.toArray (jc o).enc)] [] (λr H'=>r= .bool o.isSome/\H'=[]):=by
 cases o with
 |none=>
  have hr:=qo Wa.z;rw[rj Wx] at hr
  exact hr
 |some c=>exact zv (ok c rfl)
def eR{o:Option Ch}(ok:Ni o):Ct prog 185 [.agg (List.toArray (jc o).enc)] [] (λr H'=>r= .int .i64 (jr o)/\H'=[]):=by
 have hr:=az ok;refine ce func185 λg R=>?_;simp only[can]
 cases o with
 |none=>
  repeat' first|refine run ?_|refine Uc λ_=>?_|refine cq hr ?_
  exact Wi []
 |some c=>
  have xb:=ok c rfl
  obtain⟨m,t,hm⟩:∃m t,c.ms=m::t:=by
   have:=xb.l1
   cases h:c.ms with
   |nil=>rw[h] at this;exact absurd this (by decide)
   |cons m t=>exact⟨m,t,rfl⟩
  have e0:(jc (some c)).f0=m:=by show c.cfg.f0=m;unfold Ch.cfg;rw[hm];rfl
  have e1:jr (some c)=m.nd:=by show Gx (c.all.map (·.nd)) 0=m.nd;unfold Ch.all;rw[hm];rfl
  rw[e1];repeat' first|refine run ?_|refine Uc λ_=>?_|refine cq hr ?_
  rw[e0];exact Wi []
def fR{o:Option Ch}(ok:Ni o):Ct prog 192 [.agg (List.toArray (jc o).enc)] [] (λr H'=>r= .int .i64 (Xp o)/\H'=[]):=by
 have hr:=az ok;refine ce func192 λg R=>?_;simp only[can]
 cases o with
 |none=>
  repeat' first|refine run ?_|refine Uc λ_=>?_|refine cq hr ?_
  exact Wi []
 |some c=>
  have xb:=ok c rfl;have h1:=xb.l1;have h4:=gR xb;obtain⟨n,hn⟩:∃n,c.ms.length=n:=⟨_,rfl⟩;have SX:(jc (some c)).n=(n:Int):=by rw[<-hn];rfl
  obtain⟨m,hm⟩:∃m,c.ms[n - 1]? =some m:=⟨_,Wg (by omega)⟩
  have e1:Xp (some c)=m.nd:=by
   unfold Xp;rw[SX];show Gx (c.all.map (·.nd)) ((n:Int) - 1)=m.nd;have hl:n<=(c.all.map (·.nd)).length:=by rw[bf];unfold Ch.all;rw[Eb];omega
   unfold Gx;rw[if_neg (by omega),getD_eq_getElem?_getD,List.getElem?_map,show((n:Int) - 1).toNat=n - 1 by omega];unfold Ch.all;rw[List.getElem?_append_left (by omega),hm];rfl
  rw[e1];have Cj:=iR (c:=c) h4 hm
  have hg:(jc (some c)).enc[0+2+((n:Int) - 1).toNat*2+0]? =some (m.nd):=by
   rw[show((n:Int) - 1).toNat=n - 1 by omega];rw[show(((n - 1:Nat):Int)).toNat=n - 1 from rfl] at Cj;have h0:=congrArg (λl=>l[0]?) Cj;try simp only[] at h0
   rw[List.getElem?_take,if_pos (by decide),List.getElem?_drop] at h0;exact h0
  generalize hx:jc (some c)=x at*;repeat' first|refine run ?_|refine Uc λ_=>?_|refine cq hr ?_
  rw[SX];repeat' first|refine run ?_|refine lN x.enc _ rfl ?_ (hc:=hg)
  exact Wi []
def Hq{o:Option Ch}(ok:Ni o)(k:Int):Ct prog 58 [.agg (List.toArray (jc o).enc),k] [] (λr H'=>r= .int .i64 (Nd o k)/\H'=[]):=by
 have hp:=wo ok k;have hm:=xo ok;have hl:=Oh ok;have hi:=qk (Fb o) k;refine ce func58 λg R=>?_;simp only[can];by_cases h1:Rg (Fb o) k<1
 .have e:Nd o k= -1:=by unfold Nd Gx;rw[if_pos (.inl (by omega))]
  rw[e];repeat' first|refine run ?_|refine Uc λ_=>?_|refine cq hp ?_
  exact Wi []
 .repeat' first|refine run ?_|refine Uc λ_=>?_|refine cq hp ?_
  refine ck hm ?_;rintro v _ ⟨ms,h,Ix,-,hs,rfl⟩;have hr:=hs.rs;obtain⟨vp,vc,rfl⟩:=hr.len;have hml:ms.length=(Fb o).length:=by rw[<-Ix,bf]
  have hlt:Rg (Fb o) k<(Fb o).length\/True:= .inr trivial;by_cases hle:Rg (Fb o) k<=(ms.length:Int);rotate_left
  .omega
  obtain⟨m,hmk⟩:∃m,ms[(Rg (Fb o) k - 1).toNat]? =some m:=⟨_,Wg (by omega)⟩
  have e:Nd o k=m.nd:=by
   unfold Nd Gx;rw[if_neg (by omega),getD_eq_getElem?_getD,<-Ix,List.getElem?_map];rw[Ix,hmk];rfl
  rw[e];refine rn ?_;exact Wi []
def yo{o:Option Ch}(ok:Ni o)(k:Int):Ct prog 59 [.agg (List.toArray (jc o).enc),k] [] (λr H'=>r= .int .i64 (Vc o k)/\H'=[]):=by
 have hp:=wo ok k;have hm:=xo ok;have hl:=Oh ok;have hi:=qk (Fb o) k;obtain⟨i,hii⟩:∃i,Rg (Fb o) k=i:=⟨_,rfl⟩;refine ce func59 λg R=>?_;repeat' first|refine rn ?_|refine Uc λ_=>?_|refine cq hp ?_
 refine ck hm ?_;rintro v _ ⟨ms,h,Ix,-,hs,rfl⟩;have hr:=hs.rs;obtain⟨vp,vc,rfl⟩:=hr.len;have hml:ms.length=(Fb o).length:=by rw[<-Ix,bf]
 simp only[can];unfold Vc;rw[hii] at hi⊢;by_cases h0:i<0
 .rw[if_pos h0];try refine run ?_
  exact Wi []
 .rw[if_neg h0];by_cases h1:(ms.length:Int)<=i+1
  .have e:Gx (Fb o) (i+1)= -1:=by unfold Gx;rw[if_pos (.inr (by omega))]
   rw[e];try refine run ?_
   exact Wi []
  .obtain⟨m,hmk⟩:∃m,ms[(i+1).toNat]? =some m:=⟨_,Wg (by omega)⟩
   have e:Gx (Fb o) (i+1)=m.nd:=by
    unfold Gx;rw[if_neg (by omega),getD_eq_getElem?_getD,<-Ix,List.getElem?_map,hmk];rfl
   rw[e];try refine run ?_
   exact Wi []
def oI{o:Option Ch}(ok:Ni o)(k:Int):Ct prog 183 [.agg (List.toArray (jc o).enc),k] [] (λr H'=>r= .bool (sk o k)/\H'=[]):=by
 have hp:=wo ok k;unfold sk;refine ce func183 λg R=>?_;simp only[can];by_cases h0:0<=Rg (Fb o) k
 .by_cases h2:Rg (Fb o) k<(jc o).n
  .repeat' first|refine run ?_|refine Uc λ_=>?_|refine cq hp ?_
   exact Xa [] rfl rfl ⟨by simp[h0,h2],rfl⟩
  .repeat' first|refine run ?_|refine Uc λ_=>?_|refine cq hp ?_
   exact Xa [] rfl rfl ⟨by simp[h0,h2],rfl⟩
 .repeat' first|refine run ?_|refine Uc λ_=>?_|refine cq hp ?_
  exact Xa [] rfl rfl ⟨by simp[h0],rfl⟩
def oF{o:Option Ch}(ok:Ni o)(k:Int):Ct prog 215 [.agg (List.toArray (jc o).enc),k] [] (λr H'=>r= .int .i64 (Zb o k)/\H'=[]):=by
 have hp:=wo ok k;have dV:=xo ok;have hl:=Oh ok;refine ce func215 λg R=>?_;simp only[can]
 cases o with
 |none=>
  have e:Rg (Fb none) k= -1:=rfl;rw[e] at hp;repeat' first|refine run ?_|refine Uc λ_=>?_|refine cq hp ?_
  exact Wi []
 |some c=>
  have xb:=ok c rfl;rw[show Rg (Fb (some c)) k=wG c.all k from Oy] at hp
  cases hf:c.all.findIdx? (λp=>decide (p.nd=k)) with
  |none=>
   have e:wG c.all k= -1:=by unfold wG;rw[hf]
   have e2:Zb (some c) k=0:=by unfold Zb;simp only[];rw[hf]
   rw[e] at hp;rw[e2];repeat' first|refine run ?_|refine Uc λ_=>?_|refine cq hp ?_
   exact Wi []
  |some j=>
   have e:wG c.all k=(j:Int):=by unfold wG;rw[hf]
   obtain⟨hj,_⟩:=List.findIdx?_eq_some_iff_getElem.1 hf;obtain⟨m,hm⟩:=Lh hj;have e2:Zb (some c) k=m.sn:=by unfold Zb;simp only[];rw[hf];simp only[getD_eq_getElem?_getD,hm,Option.getD_some]
   rw[e] at hp;rw[e2];repeat' first|refine run ?_|refine Uc λ_=>?_|refine cq hp ?_
   refine ck dV ?_;rintro _ _ ⟨ms,h2,-,dR,Sa,rfl⟩;obtain rfl:=dR c rfl;have DU:=Sa.rs;refine rn ?_;exact Wi []
variable{xs:List Int}{i:Int}{s:CS}{hv:Hp}
abbrev ta(b:Nat)(s:CS)(v:Value):Hp:=[(b,.cells (List.toArray (s.cells v)) 121 (0,0))]
def cy(h:xs=[]):Gx xs i= -1:=by
 subst h;unfold Gx;rw[if_pos];by_cases h:i<0
 .exact .inl h
 .exact .inr (by show((0:Nat):Int)<=i;omega)
def RM(h0:0<=i)(h1:i<(xs.length:Int)):Gx xs i∈xs:=by
 unfold Gx;rw[if_neg (by omega),getD_eq_getElem?_getD,Wg (by omega),Option.getD_some];exact getElem_mem _
def pI{c:Ch}(ok:Ag c){x:Int}(h:x∈Fb (some c)):0<=x:=by
 obtain⟨m,hm,rfl⟩:=mem_map.1 h;exact(ok.rg m hm).1
def jR(ok:Ni s.co):s.last↔0<(jc s.co).ep/\Xp s.co=s.nd:=by
 unfold CS.last
 cases hc:s.co with
 |none=>
  have e:Xp none= -1:=cy rfl;have e2:(jc none).ep=0:=rfl;rw[e,e2]
  constructor<;>rintro⟨h1,h2⟩<;>omega
 |some c=>
  have xb:=ok c hc;have e2:(jc (some c)).ep=c.ep:=rfl;have h1:=xb.e1;have h2:=xb.l1
  have hm:Xp (some c)∈Fb (some c):=by
   unfold Xp;have hn:(jc (some c)).n=(c.ms.length:Int):=rfl;have hl:c.ms.length<=(Fb (some c)).length:=by show _<=(c.all.map (·.nd)).length;rw[bf];unfold Ch.all;rw[Eb];omega
   exact RM (by omega) (by omega)
  have h3:=pI xb hm;rw[e2];constructor<;>rintro⟨q1,q2⟩<;>refine⟨?_,q2⟩<;>omega
def kR(ok:Ni s.co):s.head↔0<(jc s.co).ep/\jr s.co=s.nd:=by
 unfold CS.head
 cases hc:s.co with
 |none=>
  have e:jr none= -1:=cy rfl;have e2:(jc none).ep=0:=rfl;rw[e,e2]
  constructor<;>rintro⟨h1,h2⟩<;>omega
 |some c=>
  have xb:=ok c hc;have e2:(jc (some c)).ep=c.ep:=rfl;have h1:=xb.e1;have h2:=xb.l1
  have hm:jr (some c)∈Fb (some c):=by
   unfold jr;have hl:c.ms.length<=(Fb (some c)).length:=by show _<=(c.all.map (·.nd)).length;rw[bf];unfold Ch.all;rw[Eb];omega
   exact RM (by omega) (by omega)
  have h3:=pI xb hm;rw[e2];constructor<;>rintro⟨q1,q2⟩<;>refine⟨?_,q2⟩<;>omega
def wk(ok:Ni s.co)(b:Nat)(v:Value):Ct prog 95 [b] [ta b s v] (λr H'=>r= .bool (decide s.last)/\H'=[ta b s v]):=by
 have hl:=fR ok;rw[show decide s.last=decide (0<(jc s.co).ep/\Xp s.co=s.nd) by rw[decide_eq_decide];exact jR ok];refine ce func95 λg R=>?_;simp only[can];by_cases h0:0<(jc s.co).ep
 .try refine ga ?_
  refine wq ?_;repeat' first|refine ga ?_|refine Xf (s.cells v) (jc s.co).enc ?_|refine cq hl ?_
  exact Xa [ta b s v] rfl rfl ⟨by simp[h0],rfl⟩
 .try refine ga ?_
  refine sj ?_;exact Xa [ta b s v] rfl rfl ⟨by simp[h0],rfl⟩
def xk(ok:Ni s.co)(b:Nat)(v:Value):Ct prog 91 [b] [ta b s v] (λr H'=>r= .bool (decide s.head)/\H'=[ta b s v]):=by
 have hl:=eR ok;rw[show decide s.head=decide (0<(jc s.co).ep/\jr s.co=s.nd) by rw[decide_eq_decide];exact kR ok];refine ce func91 λg R=>?_;simp only[can];by_cases h0:0<(jc s.co).ep
 .try refine ga ?_
  refine wq ?_;repeat' first|refine ga ?_|refine Xf (s.cells v) (jc s.co).enc ?_|refine cq hl ?_
  exact Xa [ta b s v] rfl rfl ⟨by simp[h0],rfl⟩
 .try refine ga ?_
  refine sj ?_;exact Xa [ta b s v] rfl rfl ⟨by simp[h0],rfl⟩
def Kf(ok:Ni s.co)(b:Nat)(v:Value):Ct prog 184 [b] [ta b s v] (λr H'=>r= .tuple #[]/\H'=[ta b s.settle v]):=by
 have hl:=wk ok b v;refine ce func184 λg R=>?_;simp only[can];by_cases h0:s.last
 .rw[Mi h0] at hl
  cases hj:(jc s.co).jo with
  |false=>
   have e:s.settle={s with su:=true,st:=s.du}:=by unfold CS.settle;rw[if_pos h0,if_pos hj]
   rw[e];repeat' first|refine ga ?_|refine cq hl ?_
   rw[hj];try refine ga ?_
   refine ei (s.cells v) (CS.cells {s with su:=true} v) ?_;try refine ga ?_
   refine ei (CS.cells {s with su:=true} v) (CS.cells {s with su:=true,st:=s.du} v) ?_;try refine ga ?_
   first|exact D.fc [ta b ({s with su:=true,st:=s.du}:CS) v] _ rfl ⟨rfl,rfl⟩|exact D.ri [ta b ({s with su:=true,st:=s.du}:CS) v] _ rfl ⟨rfl,rfl⟩
  |true=>
   cases hs:s.su with
   |true=>
    have e:s.settle={s with st:=mx s.st s.bs}:=by unfold CS.settle;rw[if_pos h0,if_neg (by rw[hj];decide),if_pos hs]
    rw[e];repeat' first|refine ga ?_|refine cq hl ?_
    rw[hj];try refine ga ?_
    rw[hs];try refine ga ?_
    refine KK (ml [10]) [ta b s v] ?_;try refine ga ?_
    refine ei (s.cells v) (CS.cells {s with st:=mx s.st s.bs} v) ?_;try refine ga ?_
    exact D.fc [ta b ({s with st:=mx s.st s.bs}:CS) v] _ rfl ⟨rfl,by rw[hs]⟩
   |false=>
    have e:s.settle=s:=by unfold CS.settle;rw[if_pos h0,if_neg (by rw[hj];decide),if_neg (by rw[hs];decide)]
    rw[e];repeat' first|refine ga ?_|refine cq hl ?_
    rw[hj];try refine ga ?_
    rw[hs];try refine ga ?_
    first|exact D.fc [ta b s v] _ rfl ⟨rfl,rfl⟩|exact D.ri [ta b s v] _ rfl ⟨rfl,rfl⟩
 .rw[rj h0] at hl;have e:s.settle=s:=if_neg h0;rw[e];repeat' first|refine ga ?_|refine cq hl ?_
  first|exact D.fc [ta b s v] _ rfl ⟨rfl,rfl⟩|exact D.ri [ta b s v] _ rfl ⟨rfl,rfl⟩
def Ut(dc rg nd:Int):Ct prog 132 [dc,rg,nd] [] (λr H'=>∃b,r= .pointer (some ⟨b,0,none⟩)/\H'=[ta b (CS.new dc rg nd) (.slice none 0 0)]):=by
 refine ce func132 λg R=>?_;repeat' first|refine Za ?_|refine Uc λ_=>?_|refine jf ((CS.new dc rg nd).cells (.slice none 0 0)) ?_
 rename_i b;exact Xa [ta b (CS.new dc rg nd) (.slice none 0 0)] rfl rfl ⟨b,rfl,rfl⟩
def bq(s:CS)(b:Nat){v:Value}(hs:Rs s.lg v hv)(hl:s.lg.length<=1000000):Ct prog 245 [b] [ta b s v,hv] (λr H'=>r= .agg (List.toArray (Bc s.rg s.lg).enc)/\H'=[ta b s v,hv]):=by
 have hc:=ko s.rg hs hl;generalize Bc s.rg s.lg=o at hc⊢;refine ce func245 λg R=>?_;repeat' first|refine Za ?_|refine al λ_=>?_
 refine KK (ml [8,1]) [ta b s v] ?_;try refine ga ?_
 refine cq hc ?_;repeat' first|refine ga ?_|refine xg V3.z.enc o.enc ?_
 exact D.Gc [ta b s v,hv] _ rfl (.Va rfl rfl .nil) ⟨rfl,rfl⟩
def bz(s:CS)(b:Nat)(H':HH):Prop:=∃v hv,H'=[ta b s v,hv]/\ia 49 s.lg v hv
def AO(ok:Ob s)(b:Nat){v:Value}(hs:ia 49 s.lg v hv):Ct prog 252 [b] [ta b s v,hv] (λr H'=>r= .tuple #[]/\bz s.sync b H'):=by
 have hr:=hs.rs;have ZA:=Kf (s:={s with du:=s.len}) ok.co b v;have vv:s.sync.lg=s.lg:=(Na ({s with du:=s.len}:CS)).2.2.2.2.2.2.1;refine ng func252 λg R=>?_;refine ei (s.cells v) (CS.cells {s with du:=s.len} v) ?_;try refine ga ?_
 refine ck ZA ?_;rintro _ _ ⟨rfl,rfl⟩;refine Za ?_;exact D.fc [ta b (CS.settle {s with du:=s.len}) v,hv] _ rfl ⟨rfl,v,hv,rfl,by rw[vv];exact hs⟩
variable{n:Int}
def lR{o:Option Ch}(ok:Ni o)(h:0<=Nd o n):1<=(jc o).ep:=by
 cases o with
 |none=>
  have e:Nd none n= -1:=cy rfl;rw[e] at h;exact absurd h (by decide)
 |some c=>exact(ok c rfl).e1
def BO{o:Option Ch}(ok:Ni o)(h:0<=Vc o n):1<=(jc o).ep:=by
 cases o with
 |none=>
  have e:Vc none n= -1:=by unfold Vc;split<;>first|rfl|exact cy rfl
  rw[e] at h;exact absurd h (by decide)
 |some c=>exact(ok c rfl).e1
def CS.zg(s:CS)(from_ ep ix:Int)(e:ya):Bool×CS:=
 if s.takes from_ ep ix e then(true,s.push e) else(false,s)
def CO(ok:Ob s)(b:Nat){v:Value}{hv:Hp}(hs:ia 49 s.lg v hv)(fr ep ix:Int)(e:ya):
  Ct prog 180 [b,fr,ep,ix,.agg (List.toArray e.enc)] [ta b s v,hv] (λr H'=>r= .bool (s.zg fr ep ix e).1/\bz (s.zg fr ep ix e).2 b H'):=by
 have hr:=hs.rs;have BG:=Hq ok.co s.nd;have ji:=Rt e;have tg:=ok.len;have hlen:s.len=(s.lg.length:Int):=rfl;by_cases hT:s.takes fr ep ix e
 .have e0:s.zg fr ep ix e=(true,s.push e):=if_pos hT;rw[e0];obtain⟨t1,t2,t3,t4,t5,t6⟩:=hT;have t0:=lR ok.co (n:=s.nd) (by omega);rw[Mi t5] at ji;generalize Nd s.co s.nd=ah at BG t3;refine ce func180 λg R=>?_;repeat' first|refine Za ?_|refine Uc λ_=>?_
  rename_i b9;refine wq ?_;repeat' first|refine ga ?_|refine Xf (t:=40) (s.cells v) (jc s.co).enc ?_|refine Xf (t:=49) e.enc e.enc ?_|refine cq BG ?_|refine cq ji ?_
  refine KK (ml [6,2]) [ta b s v,Gb b9 e] ?_;repeat' first|refine ga ?_|refine Xf (t:=49) e.enc e.enc ?_
  refine Up [e] (λv2 h2 Sa=>?_);try refine ga ?_
  refine Jt (zb:=by simp only[Ib,td];omega) hs Sa.rs (λv3 h3 Cc=>?_);obtain⟨p3,c3,e3⟩:=Cc.rs.len;subst e3;try refine ga ?_
  refine ei (s.cells v) (CS.cells (s.push e) (.slice p3 (s.lg++[e]).length c3)) ?_;try refine ga ?_
  exact Xa [ta b (s.push e) (.slice p3 (s.lg++[e]).length c3),h3] rfl rfl ⟨rfl,_,h3,rfl,Cc⟩
 .have e0:s.zg fr ep ix e=(false,s):=if_neg hT;rw[e0];refine ce func180 λg R=>?_;repeat' first|refine Za ?_|refine Uc λ_=>?_
  refine wq ?_;by_cases t0:(jc s.co).ep=0
  .try refine ga ?_
   exact Xa [ta b s v,hv] rfl rfl ⟨rfl,v,hv,rfl,hs⟩
  by_cases t1:ep=(jc s.co).ep;rotate_left
  .try refine ga ?_
   exact Xa [ta b s v,hv] rfl rfl ⟨rfl,v,hv,rfl,hs⟩
  by_cases t2:0<=fr;rotate_left
  .try refine ga ?_
   exact Xa [ta b s v,hv] rfl rfl ⟨rfl,v,hv,rfl,hs⟩
  by_cases t3:fr=Nd s.co s.nd;rotate_left
  .repeat' first|refine ga ?_|refine Xf (t:=40) (s.cells v) (jc s.co).enc ?_|refine cq BG ?_
   exact Xa [ta b s v,hv] rfl rfl ⟨rfl,v,hv,rfl,hs⟩
  by_cases t4:ix=s.len+1;rotate_left
  .repeat' first|refine ga ?_|refine Xf (t:=40) (s.cells v) (jc s.co).enc ?_|refine cq BG ?_
   exact Xa [ta b s v,hv] rfl rfl ⟨rfl,v,hv,rfl,hs⟩
  by_cases t6:s.len<256;rotate_left
  .repeat' first|refine ga ?_|refine Xf (t:=40) (s.cells v) (jc s.co).enc ?_|refine cq BG ?_
   exact Xa [ta b s v,hv] rfl rfl ⟨rfl,v,hv,rfl,hs⟩
  by_cases t5:ud e
  .exact absurd ⟨t1,t2,t3,t4,t5,t6⟩ hT
  .rw[rj t5] at ji;repeat' first|refine ga ?_|refine Xf (t:=40) (s.cells v) (jc s.co).enc ?_|refine Xf (t:=49) e.enc e.enc ?_|refine cq BG ?_|refine cq ji ?_
   exact Xa [ta b s v,hv] rfl rfl ⟨rfl,v,hv,rfl,hs⟩
def eL(ok:Ob s)(b:Nat)(v:Value)(fr ep du st:Int):
  Ct prog 89 [b,fr,ep,du,st] [ta b s v] (λr H'=>r= .bool (s.heard fr ep du st).1/\H'=[ta b (s.heard fr ep du st).2 v]):=by
 have Bt:=yo ok.co s.nd;have YK:=oI ok.co fr;by_cases hT:ep=(jc s.co).ep/\0<=fr/\fr=Vc s.co s.nd
 .have e0:s.heard fr ep du st=(true,(s.Pb fr (mn du s.du) (mn st s.du)).settle):=if_pos hT;rw[e0];obtain⟨t1,t2,t3⟩:=hT;have t0:=BO ok.co (n:=s.nd) (by omega);generalize Vc s.co s.nd=bh at Bt t3;refine ng func89 λg R=>?_
  cases hf:sk s.co fr with
  |true=>
   rw[hf] at YK;have e1:s.Pb fr (mn du s.du) (mn st s.du)={s with ak:=mx s.ak (mn du s.du),st:=mx s.st (mn st s.du)}:=if_pos hf;rw[e1];refine wq ?_;repeat' first|refine ga ?_|refine Xf (t:=40) (s.cells v) (jc s.co).enc ?_|refine cq Bt ?_
   refine ei (s.cells v) (CS.cells {s with ak:=mx s.ak (mn du s.du)} v) ?_;repeat' first|refine ga ?_|refine Xf (t:=40) (CS.cells {s with ak:=mx s.ak (mn du s.du)} v) (jc s.co).enc ?_|refine cq YK ?_
   refine KK (ml [12]) [ta b {s with ak:=mx s.ak (mn du s.du)} v] ?_;try refine ga ?_
   refine ei (CS.cells {s with ak:=mx s.ak (mn du s.du)} v) (CS.cells {s with ak:=mx s.ak (mn du s.du),st:=mx s.st (mn st s.du)} v) ?_;try refine ga ?_
   refine ck (Kf (s:={s with ak:=mx s.ak (mn du s.du),st:=mx s.st (mn st s.du)}) ok.co b v) ?_;rintro _ _ ⟨rfl,rfl⟩;refine Za ?_
   exact Wi [ta b (CS.settle ({s with ak:=mx s.ak (mn du s.du),st:=mx s.st (mn st s.du)})) v]
  |false=>
   rw[hf] at YK
   cases hsu:s.su with
   |true=>
    have e1:s.Pb fr (mn du s.du) (mn st s.du)={s with ak:=mx s.ak (mn du s.du),su:=true,st:=mx (mx s.st s.bs) (mn du s.du)}:=by unfold CS.Pb;rw[if_neg (by rw[hf];decide),if_pos (.inl hsu)]
    rw[e1];clear e0 e1;refine wq ?_;repeat' first|refine ga ?_|refine Xf (t:=40) (s.cells v) (jc s.co).enc ?_|refine cq Bt ?_
    refine ei (s.cells v) (CS.cells {s with ak:=mx s.ak (mn du s.du)} v) ?_;repeat' first|refine ga ?_|refine Xf (t:=40) (CS.cells {s with ak:=mx s.ak (mn du s.du)} v) (jc s.co).enc ?_|refine cq YK ?_
    refine WX.as 83 (.bool true) rfl (by rw[hsu]) ?_;try refine ga ?_
    refine ei (CS.cells {s with ak:=mx s.ak (mn du s.du)} v) (CS.cells {s with ak:=mx s.ak (mn du s.du),su:=true} v) ?_;try refine ga ?_
    refine KK (ml [11]) [ta b {s with ak:=mx s.ak (mn du s.du),su:=true} v] ?_;repeat' first|refine ga ?_|refine WX.WQ rfl rfl rfl rfl ?_
    refine ei (CS.cells {s with ak:=mx s.ak (mn du s.du),su:=true} v) (CS.cells {s with ak:=mx s.ak (mn du s.du),su:=true,st:=mx (mx s.st s.bs) (mn du s.du)} v) ?_;try refine ga ?_
    refine ck (Kf (s:={s with ak:=mx s.ak (mn du s.du),su:=true,st:=mx (mx s.st s.bs) (mn du s.du)}) ok.co b v) ?_;rintro _ _ ⟨rfl,rfl⟩;refine Za ?_
    exact Wi [ta b (CS.settle ({s with ak:=mx s.ak (mn du s.du),su:=true,st:=mx (mx s.st s.bs) (mn du s.du)})) v]
   |false=>
    by_cases hw:(if s.du<du then s.du else du)>=s.ow
    .have e1:s.Pb fr (mn du s.du) (mn st s.du)={s with ak:=mx s.ak (mn du s.du),su:=true,st:=mx (mx s.st s.bs) (mn du s.du)}:=by unfold CS.Pb;rw[if_neg (by rw[hf];decide),if_pos (.inr hw)]
     rw[e1];clear e0 e1;refine wq ?_;repeat' first|refine ga ?_|refine Xf (t:=40) (s.cells v) (jc s.co).enc ?_|refine cq Bt ?_
     refine ei (s.cells v) (CS.cells {s with ak:=mx s.ak (mn du s.du)} v) ?_;repeat' first|refine ga ?_|refine Xf (t:=40) (CS.cells {s with ak:=mx s.ak (mn du s.du)} v) (jc s.co).enc ?_|refine cq YK ?_
     refine WX.as 83 (.bool false) rfl (by rw[hsu]) ?_;try refine ga ?_
     refine ei (CS.cells {s with ak:=mx s.ak (mn du s.du)} v) (CS.cells {s with ak:=mx s.ak (mn du s.du),su:=true} v) ?_;try refine ga ?_
     refine KK (ml [11]) [ta b {s with ak:=mx s.ak (mn du s.du),su:=true} v] ?_;repeat' first|refine ga ?_|refine WX.WQ rfl rfl rfl rfl ?_
     refine ei (CS.cells {s with ak:=mx s.ak (mn du s.du),su:=true} v) (CS.cells {s with ak:=mx s.ak (mn du s.du),su:=true,st:=mx (mx s.st s.bs) (mn du s.du)} v) ?_;try refine ga ?_
     refine ck (Kf (s:={s with ak:=mx s.ak (mn du s.du),su:=true,st:=mx (mx s.st s.bs) (mn du s.du)}) ok.co b v) ?_;rintro _ _ ⟨rfl,rfl⟩;refine Za ?_;exact Wi [ta b (CS.settle ({s with ak:=mx s.ak (mn du s.du),su:=true,st:=mx (mx s.st s.bs) (mn du s.du)})) v]
    .have e1:s.Pb fr (mn du s.du) (mn st s.du)={s with ak:=mx s.ak (mn du s.du)}:=by
      unfold CS.Pb;rw[if_neg (by rw[hf];decide),if_neg (λh=>h.elim (λh=>by rw[hsu] at h;cases h) hw)]
     rw[e1];clear e0 e1;refine wq ?_;repeat' first|refine ga ?_|refine Xf (t:=40) (s.cells v) (jc s.co).enc ?_|refine cq Bt ?_
     refine ei (s.cells v) (CS.cells {s with ak:=mx s.ak (mn du s.du)} v) ?_;repeat' first|refine ga ?_|refine Xf (t:=40) (CS.cells {s with ak:=mx s.ak (mn du s.du)} v) (jc s.co).enc ?_|refine cq YK ?_
     refine WX.as 83 (.bool false) rfl (by rw[hsu]) ?_;try refine ga ?_
     refine ck (Kf (s:={s with ak:=mx s.ak (mn du s.du)}) ok.co b v) ?_;rintro _ _ ⟨rfl,rfl⟩;refine Za ?_;exact Wi [ta b (CS.settle ({s with ak:=mx s.ak (mn du s.du)})) v]
 .have e0:s.heard fr ep du st=(false,s):=if_neg hT;rw[e0];clear e0;refine ng func89 λg R=>?_;refine wq ?_;by_cases t0:(jc s.co).ep=0
  .try refine ga ?_
   exact Wi [ta b s v]
  by_cases t1:ep=(jc s.co).ep;rotate_left
  .try refine ga ?_
   exact Wi [ta b s v]
  by_cases t2:0<=fr;rotate_left
  .try refine ga ?_
   exact Wi [ta b s v]
  by_cases t3:fr=Vc s.co s.nd
  .exact absurd ⟨t1,t2,t3⟩ hT
  .repeat' first|refine ga ?_|refine Xf (t:=40) (s.cells v) (jc s.co).enc ?_|refine cq Bt ?_
   exact Wi [ta b s v]
end Go.Proofs.YthebagfahkebiaaGreat
