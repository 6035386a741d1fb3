/- Texts of one road. -/
import Derived.Test.YthebagfahkebiaaGreatQAR
set_option linter.all false
set_option maxHeartbeats 8000000
set_option maxRecDepth 20000
namespace Go.Proofs.YthebagfahkebiaaGreat
open Go Go.Sl Go.Proofs.Tryz List
def EM{x:Va}{k:Nat}{m:Mem}(hk:x.Ss[k]? =some m):((x.enc).drop (0+2+((k:Nat):Int).toNat*2)).take 2=m.enc:=by
 have hlt:k<4:=(List.getElem?_eq_some_iff.1 hk).1;rcases(by omega:k=0\/k=1\/k=2\/k=3) with rfl|rfl|rfl|rfl<;>cases hk<;>rfl
def Et(x:Va):
  Ct prog 141 [.agg (List.toArray x.enc)] [] (λr H'=>∃h',ia 37 (bf x).all r h'/\H'=[h']):=by
 have h4:x.Ss.length=4:=rfl;obtain⟨n,hn⟩:∃n:Nat,x.n.toNat=n:=⟨_,rfl⟩;have hall:(bf x).all=x.Ss.take n++(if x.jo=true then some x.le else none).toList:=by rw[<-hn];rfl
 rw[hall];refine ce func141 λg R=>?_;repeat' first|refine rn ?_|refine Ud λ_=>?_
 rename_i b;refine W.Ke ?_;refine W.lo (α:=Nat×Value×Hp) (λy=>y.1<=n/\y.1<=4/\ia 37 (x.Ss.take y.1) y.2.1 y.2.2) (λy=>[(1,b),(3,y.2.1),(4,.int .i64 (y.1:Int))]) (λy=>[y.2.2,Mc b x,R]) (λy=>4 - y.1) (0,.slice none 0 0,[]) ⟨Gi _,Gi _,ia.nil _⟩ ?_;rintro⟨k,v,h⟩ ⟨hk,yU,hs⟩;simp only[] at hk yU hs⊢;by_cases hlt:k<n/\k<4
 .obtain⟨waa,UU⟩:=hlt;have PK:(k:Int)<x.n:=by omega
  obtain⟨m,hm⟩:∃m,x.Ss[k]? =some m:=⟨_,oh (by omega)⟩;have zj:=EM hm;have htl:(x.Ss.take k).length<=4:=by rw[Fe];omega
  repeat' first|refine run ?_|refine WX.Fa rfl zj rfl rfl ?_
  refine Kp [m] (λv2 h2 Oa=>?_);refine Ys (zb:=by simp only[Gb,jd];omega) hs Oa.rs (λv3 h3 Fc=>?_);rw[show x.Ss.take k++[m]=x.Ss.take (k+1) by rw[take_add_one,hm];rfl] at Fc;try refine run ?_
  exact D.rd (k+1,v3,h3) ⟨by simp only[];omega,by simp only[];omega,Fc⟩ (by simp only[];omega)
 .have th:x.Ss.take k=x.Ss.take n:=by
   rcases(by omega:k=n\/(k=4/\4<=n)) with h|⟨h,h'⟩
   .rw[h]
   .rw[h,take_of_length_le (by omega),take_of_length_le (by omega)]
  have htl:(x.Ss.take n).length<=4:=by rw[Fe];omega
  rw[th] at hs;have hge: ¬((k:Int)<x.n/\(k:Int)<4):=by omega
  clear hlt th;by_cases hc:(k:Int)<x.n
  .have hc2: ¬(k:Int)<4:=λh=>hge ⟨hc,h⟩
   cases hj:x.jo with
   |false=>
    try refine run ?_
    rw[hj];try refine run ?_
    exact Wa [h] rfl rfl ⟨h,by simpa using hs,rfl⟩
   |true=>
    try refine run ?_
    rw[hj];try refine run ?_
    refine Kp [x.le] (λv2 h2 Oa=>?_);refine Ys (zb:=by simp only[Gb,jd];omega) hs Oa.rs (λv3 h3 Fc=>?_);try refine run ?_
    exact Wa [h3] rfl rfl ⟨h3,by simpa using Fc,rfl⟩
  .cases hj:x.jo with
   |false=>
    try refine run ?_
    rw[hj];try refine run ?_
    exact Wa [h] rfl rfl ⟨h,by simpa using hs,rfl⟩
   |true=>
    try refine run ?_
    rw[hj];try refine run ?_
    refine Kp [x.le] (λv2 h2 Oa=>?_);refine Ys (zb:=by simp only[Gb,jd];omega) hs Oa.rs (λv3 h3 Fc=>?_);try refine run ?_
    exact Wa [h3] rfl rfl ⟨h3,by simpa using Fc,rfl⟩
def Yn(x:Va):Ct prog 214 [.agg (List.toArray x.enc)] [] (λr H'=>r= .bool (decide (Nd x))/\H'=[]):=by
 by_cases hyes:Nd x
 .have h:=Uu hyes.2.2;rw[hyes.2.1] at h;rw[Fi hyes];exact h
 rw[gj hyes];by_cases qk: ¬(1<=x.ep/\x.ep<=1099511627776/\1<=x.n/\x.n<=4)
 .clear hyes;refine ce func214 λg R=>?_;simp only[can];by_cases g1:x.ep<1
  .repeat' first|refine run ?_|refine Ud λ_=>?_
   exact vj []
  by_cases g2:1099511627776<x.ep
  .repeat' first|refine run ?_|refine Ud λ_=>?_
   exact vj []
  by_cases g3:x.n<1
  .repeat' first|refine run ?_|refine Ud λ_=>?_
   exact vj []
  have g4:4<x.n:=by omega
  repeat' first|refine run ?_|refine Ud λ_=>?_
  exact vj []
 obtain⟨YW,F1,yc,LX⟩:=Classical.not_not.1 qk;clear qk;obtain⟨n,hn⟩:∃k:Nat,x.n=(k:Int):=⟨x.n.toNat,by omega⟩;have G1:n<=4:=by omega
 have I1:=bI hn G1;obtain⟨c,hc⟩:∃c,bf x=c:=⟨_,rfl⟩;have OX:c.ep=x.ep:=by rw[<-hc];rfl
 have mh:c.ms.length=n:=by rw[<-hc];show(x.Ss.take x.n.toNat).length=n;rw[Fe,hn];show min n 4=n;omega
 have hall:c.all.length<=5:=by
  unfold Ch.all;rw[Cb];have:c.ln.toList.length<=1:=(by cases c.ln<;>simp);omega
 have TQ:=Et x;rw[hc] at TQ;have By: ¬(Br c c.all.length/\(∀m∈x.Ss.drop n,m=Mem.z)/\(x.jo=false->x.le=Mem.z)):=λ⟨q1,q2,q3⟩=>hyes ⟨⟨yc,LX⟩,I1 q2 q3,by rw[hc];exact q1.all (by rw[OX];exact YW) (by rw[OX];exact F1) (by omega)⟩;clear hyes I1 hc;refine ce func214 λg R=>?_;repeat' first|refine rn ?_|refine Ud λ_=>?_
 rename_i b;refine ck TQ ?_;rintro v _ ⟨h,hs,rfl⟩;have hr:=hs.rs;obtain⟨vp,vc,rfl⟩:=hr.len;refine rn ?_;refine W.lo (α:=Nat) (λq=>q<=c.all.length/\Br c q) (λq=>[(1,b),(3,.slice vp c.all.length vc),(4,.int .i64 (q:Int))]) (λ_=>[h,Mc b x,R]) (λq=>c.all.length - q) 0 ⟨Gi _,λi m hi=>absurd hi (Nat.not_lt_zero _)⟩ ?_;rintro q ⟨hq,hmo⟩;by_cases hlt:q<c.all.length
 .obtain⟨m,hm⟩:=Sh hlt;by_cases r1:m.nd<0
  .try refine run ?_
   refine wr ?_;exact vj []
  by_cases r2:4<=m.nd
  .try refine run ?_
   refine wr ?_;exact vj []
  by_cases r3:m.sn<1
  .try refine run ?_
   refine wr ?_;exact vj []
  by_cases r4:x.ep<m.sn
  .try refine run ?_
   refine wr ?_;exact vj []
  try refine run ?_
  refine wr ?_;refine W.lo (α:=Nat) (λk=>k<=q/\∀(j:Nat) (m':Mem),j<k->c.all[j]? =some m'->m'.nd≠m.nd) (λk=>[(1,b),(3,.slice vp c.all.length vc),(4,.int .i64 (q:Int)),(5,.int .i64 (k:Int))]) (λ_=>[h,Mc b x,R]) (λk=>q - k) 0 ⟨Gi _,λi m hi=>absurd hi (Nat.not_lt_zero _)⟩ ?_;rintro k ⟨hk,hno⟩;by_cases hlk:k<q
  .obtain⟨y,hy⟩:∃y,c.all[k]? =some y:=⟨_,oh (by omega)⟩;by_cases hne:y.nd=m.nd
   .try refine run ?_
    refine wr ?_;exact vj []
   .try refine run ?_
    refine wr ?_;refine D.rd (k+1) ⟨by omega,λj m' hj hm'=>?_⟩ (by omega);rcases Nat.lt_or_ge j k with hh|hh
    .exact hno j m' hh hm'
    .obtain rfl:j=k:=by omega
     rw[hy] at hm';cases hm';exact hne
  .obtain rfl:k=q:=by omega
   try refine run ?_
   refine D.rd (k+1) ⟨by omega,λi p hi hp=>?_⟩ (by omega);rcases Nat.lt_or_ge i k with hh|hh
   .exact hmo i p hh hp
   .obtain rfl:i=k:=by omega
    rw[hm] at hp;cases hp;exact⟨⟨by omega,by omega,by omega,by rw[OX];omega⟩,hno⟩
 .obtain rfl:q=c.all.length:=by omega
  try refine run ?_
  refine W.loop (α:=Nat) (λk=>n<=k/\k<=4/\∀(i:Nat) (m:Mem),n<=i->i<k->x.Ss[i]? =some m->m=Mem.z) (λk=>[(1,b),(6,.int .i64 (k:Int))]) (λ_=>[Mc b x,R]) (λk=>4 - k) n ⟨Nat.le_refl _,G1,λi m h1 h2=>absurd h1 (by omega)⟩ (by rw[<-hn];exact(by repeat(first|exact Ca.nil|refine Ca.cons rfl ?_))) (Ga.qa inferInstance) ?_;rintro k ⟨hk,yU,hz⟩;by_cases hlk:k<4
  .obtain⟨m,hm⟩:∃m,x.Ss[k]? =some m:=⟨_,oh (by show k<4;exact hlk)⟩;have zj:=EM hm;have tm:=rq m Mem.z;by_cases pQ:m=Mem.z
   .rw[Fi pQ] at tm;repeat' first|refine run ?_|refine WX.Fa rfl zj rfl rfl ?_|refine WX.xl rfl rfl tm rfl ?_
    refine D.rd (k+1) ⟨by omega,by omega,λi p h1 h2 hp=>?_⟩ (by omega);rcases Nat.lt_or_ge i k with hh|hh
    .exact hz i p h1 hh hp
    .obtain rfl:i=k:=by omega
     rw[hm] at hp;cases hp;exact pQ
   .rw[gj pQ] at tm;repeat' first|refine run ?_|refine WX.Fa rfl zj rfl rfl ?_|refine WX.xl rfl rfl tm rfl ?_
    exact vj []
  .obtain rfl:k=4:=by omega
   have cI:∀m∈x.Ss.drop n,m=Mem.z:=λm hm=>by
    obtain⟨i,hi⟩:=mem_iff_getElem?.1 hm;rw[List.getElem?_drop] at hi;have:=(List.getElem?_eq_some_iff.1 hi).1;exact hz (n+i) m (by omega) this hi
   have tl:=rq x.le Mem.z
   have hle:x.jo=false/\x.le≠Mem.z:=by
    cases hj:x.jo with
    |true=>exact absurd ⟨hmo,cI,λh=>by rw[hj] at h;cases h⟩ By
    |false=>exact⟨rfl,λh=>By ⟨hmo,cI,λ_=>h⟩⟩
   rw[gj hle.2] at tl;have hj:=hle.1;try refine run ?_
   rw[hj];repeat' first|refine run ?_|refine WX.Vu rfl rfl tl rfl ?_
   exact vj []
theorem o7:(bf Va.z).all=[]:=rfl
def Zn{o:Option Ch}(ok:Ii o)(k:Int):Ct prog 140 [.agg (List.toArray (Yb o).enc),k] [] (λr H'=>r= .int .i64 (Ig (Eb o) k)/\H'=[]):=by
 cases o with
 |some c=>
  rw[show Ig (Eb (some c)) k=qG c.all k from yy]
  exact iO (ok c rfl) k
 |none=>
  have hr:=Yn Va.z;rw[gj Hx] at hr;refine ce func140 λg R=>?_;repeat' first|refine rn ?_|refine Ud λ_=>?_|refine cq hr ?_
  exact vj []
def eo{o:Option Ch}(ok:Ii o):Ct prog 141 [.agg (List.toArray (Yb o).enc)] [] (λr H'=>∃ms h',ms.map (·.nd)=Eb o/\(∀c,o=some c->ms=c.all)/\ia 37 ms r h'/\H'=[h']):=by
 have h:=Et (Yb o);refine h.mono λr H' hp=>?_;obtain⟨h',hs,rfl⟩:=hp;refine⟨(bf (Yb o)).all,h',?_,λc hc=>?_,hs,rfl⟩
 .cases o with
  |none=>rfl
  |some c=>rw[show Yb (some c)=c.cfg from rfl,Ft (by have:=(ok c rfl).l4;omega)];rfl
 .subst hc;rw[show Yb (some c)=c.cfg from rfl,Ft (by have:=(ok c rfl).l4;omega)]
def Jy{o:Option Ch}(ok:Ii o):Ct prog 214 [.agg (List.toArray (Yb o).enc)] [] (λr H'=>r= .bool o.isSome/\H'=[]):=by
 cases o with
 |none=>
  have hr:=Yn Va.z;rw[gj Hx] at hr
  exact hr
 |some c=>exact Uu (ok c rfl)
def UQ{o:Option Ch}(ok:Ii o):Ct prog 185 [.agg (List.toArray (Yb o).enc)] [] (λr H'=>r= .int .i64 (Rq o)/\H'=[]):=by
 have hr:=Jy ok;refine ce func185 λg R=>?_;simp only[can]
 cases o with
 |none=>
  repeat' first|refine run ?_|refine Ud λ_=>?_|refine cq hr ?_
  exact vj []
 |some c=>
  have ob:=ok c rfl
  obtain⟨m,t,hm⟩:∃m t,c.ms=m::t:=by
   have:=ob.l1
   cases h:c.ms with
   |nil=>rw[h] at this;exact absurd this (by decide)
   |cons m t=>exact⟨m,t,rfl⟩
  have e0:(Yb (some c)).f0=m:=by show c.cfg.f0=m;unfold Ch.cfg;rw[hm];rfl
  have e1:Rq (some c)=m.nd:=by show gx (c.all.map (·.nd)) 0=m.nd;unfold Ch.all;rw[hm];rfl
  rw[e1];repeat' first|refine run ?_|refine Ud λ_=>?_|refine cq hr ?_
  rw[e0];exact vj []
def VQ{o:Option Ch}(ok:Ii o):Ct prog 192 [.agg (List.toArray (Yb o).enc)] [] (λr H'=>r= .int .i64 (Mp o)/\H'=[]):=by
 have hr:=Jy ok;refine ce func192 λg R=>?_;simp only[can]
 cases o with
 |none=>
  repeat' first|refine run ?_|refine Ud λ_=>?_|refine cq hr ?_
  exact vj []
 |some c=>
  have ob:=ok c rfl;have h1:=ob.l1;have h4:=WQ ob;obtain⟨n,hn⟩:∃n,c.ms.length=n:=⟨_,rfl⟩;have PX:(Yb (some c)).n=(n:Int):=by rw[<-hn];rfl
  obtain⟨m,hm⟩:∃m,c.ms[n - 1]? =some m:=⟨_,oh (by omega)⟩
  have e1:Mp (some c)=m.nd:=by
   unfold Mp;rw[PX];show gx (c.all.map (·.nd)) ((n:Int) - 1)=m.nd;have hl:n<=(c.all.map (·.nd)).length:=by rw[We];unfold Ch.all;rw[Cb];omega
   unfold gx;rw[if_neg (by omega),getD_eq_getElem?_getD,List.getElem?_map,show((n:Int) - 1).toNat=n - 1 by omega];unfold Ch.all;rw[List.getElem?_append_left (by omega),hm];rfl
  rw[e1];have zj:=XQ (c:=c) h4 hm
  have hg:(Yb (some c)).enc[0+2+((n:Int) - 1).toNat*2+0]? =some (m.nd):=by
   rw[show((n:Int) - 1).toNat=n - 1 by omega];rw[show(((n - 1:Nat):Int)).toNat=n - 1 from rfl] at zj;have h0:=congrArg (λl=>l[0]?) zj;try simp only[] at h0
   rw[List.getElem?_take,if_pos (by decide),List.getElem?_drop] at h0;exact h0
  generalize hx:Yb (some c)=x at*;repeat' first|refine run ?_|refine Ud λ_=>?_|refine cq hr ?_
  rw[PX];repeat' first|refine run ?_|refine lN x.enc _ rfl ?_ (hc:=hg)
  exact vj []
def tq{o:Option Ch}(ok:Ii o)(k:Int):Ct prog 58 [.agg (List.toArray (Yb o).enc),k] [] (λr H'=>r= .int .i64 (Ed o k)/\H'=[]):=by
 have hp:=Zn ok k;have hm:=eo ok;have hl:=Fh ok;have hi:=fk (Eb o) k;refine ce func58 λg R=>?_;simp only[can];by_cases h1:Ig (Eb o) k<1
 .have e:Ed o k= -1:=by unfold Ed gx;rw[if_pos (.inl (by omega))]
  rw[e];repeat' first|refine run ?_|refine Ud λ_=>?_|refine cq hp ?_
  exact vj []
 .repeat' first|refine run ?_|refine Ud λ_=>?_|refine cq hp ?_
  refine ck hm ?_;rintro v _ ⟨ms,h,iB,-,hs,rfl⟩;have hr:=hs.rs;obtain⟨vp,vc,rfl⟩:=hr.len;have hml:ms.length=(Eb o).length:=by rw[<-iB,We]
  have hlt:Ig (Eb o) k<(Eb o).length\/True:= .inr trivial;by_cases hle:Ig (Eb o) k<=(ms.length:Int);rotate_left
  .omega
  obtain⟨m,hmk⟩:∃m,ms[(Ig (Eb o) k - 1).toNat]? =some m:=⟨_,oh (by omega)⟩
  have e:Ed o k=m.nd:=by
   unfold Ed gx;rw[if_neg (by omega),getD_eq_getElem?_getD,<-iB,List.getElem?_map];rw[iB,hmk];rfl
  rw[e];refine rn ?_;exact vj []
def fo{o:Option Ch}(ok:Ii o)(k:Int):Ct prog 59 [.agg (List.toArray (Yb o).enc),k] [] (λr H'=>r= .int .i64 (Wc o k)/\H'=[]):=by
 have hp:=Zn ok k;have hm:=eo ok;have hl:=Fh ok;have hi:=fk (Eb o) k;obtain⟨i,hii⟩:∃i,Ig (Eb o) k=i:=⟨_,rfl⟩;refine ce func59 λg R=>?_;repeat' first|refine rn ?_|refine Ud λ_=>?_|refine cq hp ?_
 refine ck hm ?_;rintro v _ ⟨ms,h,iB,-,hs,rfl⟩;have hr:=hs.rs;obtain⟨vp,vc,rfl⟩:=hr.len;have hml:ms.length=(Eb o).length:=by rw[<-iB,We]
 simp only[can];unfold Wc;rw[hii] at hi⊢;by_cases h0:i<0
 .rw[if_pos h0];try refine run ?_
  exact vj []
 .rw[if_neg h0];by_cases h1:(ms.length:Int)<=i+1
  .have e:gx (Eb o) (i+1)= -1:=by unfold gx;rw[if_pos (.inr (by omega))]
   rw[e];try refine run ?_
   exact vj []
  .obtain⟨m,hmk⟩:∃m,ms[(i+1).toNat]? =some m:=⟨_,oh (by omega)⟩
   have e:gx (Eb o) (i+1)=m.nd:=by
    unfold gx;rw[if_neg (by omega),getD_eq_getElem?_getD,<-iB,List.getElem?_map,hmk];rfl
   rw[e];try refine run ?_
   exact vj []
def dI{o:Option Ch}(ok:Ii o)(k:Int):Ct prog 183 [.agg (List.toArray (Yb o).enc),k] [] (λr H'=>r= .bool (xm o k)/\H'=[]):=by
 have hp:=Zn ok k;unfold xm;refine ce func183 λg R=>?_;simp only[can];by_cases h0:0<=Ig (Eb o) k
 .by_cases h2:Ig (Eb o) k<(Yb o).n
  .repeat' first|refine run ?_|refine Ud λ_=>?_|refine cq hp ?_
   exact Wa [] rfl rfl ⟨by simp[h0,h2],rfl⟩
  .repeat' first|refine run ?_|refine Ud λ_=>?_|refine cq hp ?_
   exact Wa [] rfl rfl ⟨by simp[h0,h2],rfl⟩
 .repeat' first|refine run ?_|refine Ud λ_=>?_|refine cq hp ?_
  exact Wa [] rfl rfl ⟨by simp[h0],rfl⟩
def iF{o:Option Ch}(ok:Ii o)(k:Int):Ct prog 215 [.agg (List.toArray (Yb o).enc),k] [] (λr H'=>r= .int .i64 (Zb o k)/\H'=[]):=by
 have hp:=Zn ok k;have WZ:=eo ok;have hl:=Fh ok;refine ce func215 λg R=>?_;simp only[can]
 cases o with
 |none=>
  have e:Ig (Eb none) k= -1:=rfl;rw[e] at hp;repeat' first|refine run ?_|refine Ud λ_=>?_|refine cq hp ?_
  exact vj []
 |some c=>
  have ob:=ok c rfl;rw[show Ig (Eb (some c)) k=qG c.all k from yy] at hp
  cases hf:c.all.findIdx? (λp=>decide (p.nd=k)) with
  |none=>
   have e:qG c.all k= -1:=by unfold qG;rw[hf]
   have e2:Zb (some c) k=0:=by unfold Zb;simp only[];rw[hf]
   rw[e] at hp;rw[e2];repeat' first|refine run ?_|refine Ud λ_=>?_|refine cq hp ?_
   exact vj []
  |some j=>
   have e:qG c.all k=(j:Int):=by unfold qG;rw[hf]
   obtain⟨hj,_⟩:=List.findIdx?_eq_some_iff_getElem.1 hf;obtain⟨m,hm⟩:=Sh hj;have e2:Zb (some c) k=m.sn:=by unfold Zb;simp only[];rw[hf];simp only[getD_eq_getElem?_getD,hm,Option.getD_some]
   rw[e] at hp;rw[e2];repeat' first|refine run ?_|refine Ud λ_=>?_|refine cq hp ?_
   refine ck WZ ?_;rintro _ _ ⟨ms,h2,-,TQ,Oa,rfl⟩;obtain rfl:=TQ c rfl;have nQ:=Oa.rs;refine rn ?_;exact vj []
variable{xs:List Int}{i:Int}{s:CS}{hv:Hp}
abbrev ta(b:Nat)(s:CS)(v:Value):Hp:=[(b,.cells (List.toArray (s.cells v)) 121 (0,0))]
def Nx(h:xs=[]):gx xs i= -1:=by
 subst h;unfold gx;rw[if_pos];by_cases h:i<0
 .exact .inl h
 .exact .inr (by show((0:Nat):Int)<=i;omega)
def FM(h0:0<=i)(h1:i<(xs.length:Int)):gx xs i∈xs:=by
 unfold gx;rw[if_neg (by omega),getD_eq_getElem?_getD,oh (by omega),Option.getD_some];exact getElem_mem _
def fI{c:Ch}(ok:xg c){x:Int}(h:x∈Eb (some c)):0<=x:=by
 obtain⟨m,hm,rfl⟩:=mem_map.1 h;exact(ok.rg m hm).1
def YQ(ok:Ii s.co):s.last↔0<(Yb s.co).ep/\Mp s.co=s.nd:=by
 unfold CS.last
 cases hc:s.co with
 |none=>
  have e:Mp none= -1:=Nx rfl;have e2:(Yb none).ep=0:=rfl;rw[e,e2]
  constructor<;>rintro⟨h1,h2⟩<;>omega
 |some c=>
  have ob:=ok c hc;have e2:(Yb (some c)).ep=c.ep:=rfl;have h1:=ob.e1;have h2:=ob.l1
  have hm:Mp (some c)∈Eb (some c):=by
   unfold Mp;have hn:(Yb (some c)).n=(c.ms.length:Int):=rfl;have hl:c.ms.length<=(Eb (some c)).length:=by show _<=(c.all.map (·.nd)).length;rw[We];unfold Ch.all;rw[Cb];omega
   exact FM (by omega) (by omega)
  have h3:=fI ob hm;rw[e2];constructor<;>rintro⟨q1,q2⟩<;>refine⟨?_,q2⟩<;>omega
def ZQ(ok:Ii s.co):s.head↔0<(Yb s.co).ep/\Rq s.co=s.nd:=by
 unfold CS.head
 cases hc:s.co with
 |none=>
  have e:Rq none= -1:=Nx rfl;have e2:(Yb none).ep=0:=rfl;rw[e,e2]
  constructor<;>rintro⟨h1,h2⟩<;>omega
 |some c=>
  have ob:=ok c hc;have e2:(Yb (some c)).ep=c.ep:=rfl;have h1:=ob.e1;have h2:=ob.l1
  have hm:Rq (some c)∈Eb (some c):=by
   unfold Rq;have hl:c.ms.length<=(Eb (some c)).length:=by show _<=(c.all.map (·.nd)).length;rw[We];unfold Ch.all;rw[Cb];omega
   exact FM (by omega) (by omega)
  have h3:=fI ob hm;rw[e2];constructor<;>rintro⟨q1,q2⟩<;>refine⟨?_,q2⟩<;>omega
def sk(ok:Ii s.co)(b:Nat)(v:Value):Ct prog 95 [b] [ta b s v] (λr H'=>r= .bool (decide s.last)/\H'=[ta b s v]):=by
 have hl:=VQ ok;rw[show decide s.last=decide (0<(Yb s.co).ep/\Mp s.co=s.nd) by rw[decide_eq_decide];exact YQ ok];refine ce func95 λg R=>?_;simp only[can];by_cases h0:0<(Yb s.co).ep
 .try refine ga ?_
  refine wq ?_;repeat' first|refine ga ?_|refine Of (s.cells v) (Yb s.co).enc ?_|refine cq hl ?_
  exact Wa [ta b s v] rfl rfl ⟨by simp[h0],rfl⟩
 .try refine ga ?_
  refine ij ?_;exact Wa [ta b s v] rfl rfl ⟨by simp[h0],rfl⟩
def uk(ok:Ii s.co)(b:Nat)(v:Value):Ct prog 91 [b] [ta b s v] (λr H'=>r= .bool (decide s.head)/\H'=[ta b s v]):=by
 have hl:=UQ ok;rw[show decide s.head=decide (0<(Yb s.co).ep/\Rq s.co=s.nd) by rw[decide_eq_decide];exact ZQ ok];refine ce func91 λg R=>?_;simp only[can];by_cases h0:0<(Yb s.co).ep
 .try refine ga ?_
  refine wq ?_;repeat' first|refine ga ?_|refine Of (s.cells v) (Yb s.co).enc ?_|refine cq hl ?_
  exact Wa [ta b s v] rfl rfl ⟨by simp[h0],rfl⟩
 .try refine ga ?_
  refine ij ?_;exact Wa [ta b s v] rfl rfl ⟨by simp[h0],rfl⟩
def Bf(ok:Ii s.co)(b:Nat)(v:Value):Ct prog 184 [b] [ta b s v] (λr H'=>r= .tuple #[]/\H'=[ta b s.settle v]):=by
 have hl:=sk ok b v;refine ce func184 λg R=>?_;simp only[can];by_cases h0:s.last
 .rw[Fi h0] at hl
  cases hj:(Yb s.co).jo with
  |false=>
   have e:s.settle={s with su:=true,st:=s.du}:=by unfold CS.settle;rw[if_pos h0,if_pos hj]
   rw[e];repeat' first|refine ga ?_|refine cq hl ?_
   rw[hj];try refine ga ?_
   refine Wh (s.cells v) (CS.cells {s with su:=true} v) ?_;try refine ga ?_
   refine Wh (CS.cells {s with su:=true} v) (CS.cells {s with su:=true,st:=s.du} v) ?_;try refine ga ?_
   first|exact D.Bc [ta b ({s with su:=true,st:=s.du}:CS) v] _ rfl ⟨rfl,rfl⟩|exact D.ai [ta b ({s with su:=true,st:=s.du}:CS) v] _ rfl ⟨rfl,rfl⟩
  |true=>
   cases hs:s.su with
   |true=>
    have e:s.settle={s with st:=mx s.st s.bs}:=by unfold CS.settle;rw[if_pos h0,if_neg (by rw[hj];decide),if_pos hs]
    rw[e];repeat' first|refine ga ?_|refine cq hl ?_
    rw[hj];try refine ga ?_
    rw[hs];try refine ga ?_
    refine sK (ml [10]) [ta b s v] ?_;try refine ga ?_
    refine Wh (s.cells v) (CS.cells {s with st:=mx s.st s.bs} v) ?_;try refine ga ?_
    exact D.Bc [ta b ({s with st:=mx s.st s.bs}:CS) v] _ rfl ⟨rfl,by rw[hs]⟩
   |false=>
    have e:s.settle=s:=by unfold CS.settle;rw[if_pos h0,if_neg (by rw[hj];decide),if_neg (by rw[hs];decide)]
    rw[e];repeat' first|refine ga ?_|refine cq hl ?_
    rw[hj];try refine ga ?_
    rw[hs];try refine ga ?_
    first|exact D.Bc [ta b s v] _ rfl ⟨rfl,rfl⟩|exact D.ai [ta b s v] _ rfl ⟨rfl,rfl⟩
 .rw[gj h0] at hl;have e:s.settle=s:=if_neg h0;rw[e];repeat' first|refine ga ?_|refine cq hl ?_
  first|exact D.Bc [ta b s v] _ rfl ⟨rfl,rfl⟩|exact D.ai [ta b s v] _ rfl ⟨rfl,rfl⟩
def Gt(dc rg nd:Int):Ct prog 132 [dc,rg,nd] [] (λr H'=>∃b,r= .pointer (some ⟨b,0,none⟩)/\H'=[ta b (CS.new dc rg nd) (.slice none 0 0)]):=by
 refine ce func132 λg R=>?_;repeat' first|refine vb ?_|refine Ud λ_=>?_|refine Vf ((CS.new dc rg nd).cells (.slice none 0 0)) ?_
 rename_i b;exact Wa [ta b (CS.new dc rg nd) (.slice none 0 0)] rfl rfl ⟨b,rfl,rfl⟩
def Qp(s:CS)(b:Nat){v:Value}(hs:Rs s.lg v hv)(hl:s.lg.length<=1000000):Ct prog 245 [b] [ta b s v,hv] (λr H'=>r= .agg (List.toArray (ic s.rg s.lg).enc)/\H'=[ta b s v,hv]):=by
 have hc:=Xn s.rg hs hl;generalize ic s.rg s.lg=o at hc⊢;refine ce func245 λg R=>?_;repeat' first|refine vb ?_|refine al λ_=>?_
 refine sK (ml [8,1]) [ta b s v] ?_;try refine ga ?_
 refine cq hc ?_;repeat' first|refine ga ?_|refine nh V3.z.enc o.enc ?_
 exact D.Dc [ta b s v,hv] _ rfl (.Ua rfl rfl .nil) ⟨rfl,rfl⟩
def Ky(s:CS)(b:Nat)(H':HH):Prop:=∃v hv,H'=[ta b s v,hv]/\ia 49 s.lg v hv
def jO(ok:Lb s)(b:Nat){v:Value}(hs:ia 49 s.lg v hv):Ct prog 252 [b] [ta b s v,hv] (λr H'=>r= .tuple #[]/\Ky s.sync b H'):=by
 have hr:=hs.rs;have ZA:=Bf (s:={s with du:=s.len}) ok.co b v;have Su:s.sync.lg=s.lg:=(Ja ({s with du:=s.len}:CS)).2.2.2.2.2.2.1;refine wj func252 λg R=>?_;refine Wh (s.cells v) (CS.cells {s with du:=s.len} v) ?_;try refine ga ?_
 refine ck ZA ?_;rintro _ _ ⟨rfl,rfl⟩;refine vb ?_;exact D.Bc [ta b (CS.settle {s with du:=s.len}) v,hv] _ rfl ⟨rfl,v,hv,rfl,by rw[Su];exact hs⟩
variable{n:Int}
def aR{o:Option Ch}(ok:Ii o)(h:0<=Ed o n):1<=(Yb o).ep:=by
 cases o with
 |none=>
  have e:Ed none n= -1:=Nx rfl;rw[e] at h;exact absurd h (by decide)
 |some c=>exact(ok c rfl).e1
def kO{o:Option Ch}(ok:Ii o)(h:0<=Wc o n):1<=(Yb o).ep:=by
 cases o with
 |none=>
  have e:Wc none n= -1:=by unfold Wc;split<;>first|rfl|exact Nx rfl
  rw[e] at h;exact absurd h (by decide)
 |some c=>exact(ok c rfl).e1
def CS.wg(s:CS)(from_ ep ix:Int)(e:ya):Bool×CS:=
 if s.takes from_ ep ix e then(true,s.push e) else(false,s)
def mO(ok:Lb s)(b:Nat){v:Value}{hv:Hp}(hs:ia 49 s.lg v hv)(fr ep ix:Int)(e:ya):
  Ct prog 180 [b,fr,ep,ix,.agg (List.toArray e.enc)] [ta b s v,hv] (λr H'=>r= .bool (s.wg fr ep ix e).1/\Ky (s.wg fr ep ix e).2 b H'):=by
 have hr:=hs.rs;have xG:=tq ok.co s.nd;have kj:=Bt e;have jg:=ok.len;have hlen:s.len=(s.lg.length:Int):=rfl;by_cases hT:s.takes fr ep ix e
 .have e0:s.wg fr ep ix e=(true,s.push e):=if_pos hT;rw[e0];obtain⟨t1,t2,t3,t4,t5,t6⟩:=hT;have t0:=aR ok.co (n:=s.nd) (by omega);rw[Fi t5] at kj;generalize Ed s.co s.nd=ah at xG t3;refine ce func180 λg R=>?_;repeat' first|refine vb ?_|refine Ud λ_=>?_
  rename_i b9;refine wq ?_;repeat' first|refine ga ?_|refine Of (t:=40) (s.cells v) (Yb s.co).enc ?_|refine Of (t:=49) e.enc e.enc ?_|refine cq xG ?_|refine cq kj ?_
  refine sK (ml [6,2]) [ta b s v,Fb b9 e] ?_;repeat' first|refine ga ?_|refine Of (t:=49) e.enc e.enc ?_
  refine Kp [e] (λv2 h2 Oa=>?_);try refine ga ?_
  refine Ys (zb:=by simp only[Gb,jd];omega) hs Oa.rs (λv3 h3 Fc=>?_);obtain⟨p3,c3,e3⟩:=Fc.rs.len;subst e3;try refine ga ?_
  refine Wh (s.cells v) (CS.cells (s.push e) (.slice p3 (s.lg++[e]).length c3)) ?_;try refine ga ?_
  exact Wa [ta b (s.push e) (.slice p3 (s.lg++[e]).length c3),h3] rfl rfl ⟨rfl,_,h3,rfl,Fc⟩
 .have e0:s.wg fr ep ix e=(false,s):=if_neg hT;rw[e0];refine ce func180 λg R=>?_;repeat' first|refine vb ?_|refine Ud λ_=>?_
  refine wq ?_;by_cases t0:(Yb s.co).ep=0
  .try refine ga ?_
   exact Wa [ta b s v,hv] rfl rfl ⟨rfl,v,hv,rfl,hs⟩
  by_cases t1:ep=(Yb s.co).ep;rotate_left
  .try refine ga ?_
   exact Wa [ta b s v,hv] rfl rfl ⟨rfl,v,hv,rfl,hs⟩
  by_cases t2:0<=fr;rotate_left
  .try refine ga ?_
   exact Wa [ta b s v,hv] rfl rfl ⟨rfl,v,hv,rfl,hs⟩
  by_cases t3:fr=Ed s.co s.nd;rotate_left
  .repeat' first|refine ga ?_|refine Of (t:=40) (s.cells v) (Yb s.co).enc ?_|refine cq xG ?_
   exact Wa [ta b s v,hv] rfl rfl ⟨rfl,v,hv,rfl,hs⟩
  by_cases t4:ix=s.len+1;rotate_left
  .repeat' first|refine ga ?_|refine Of (t:=40) (s.cells v) (Yb s.co).enc ?_|refine cq xG ?_
   exact Wa [ta b s v,hv] rfl rfl ⟨rfl,v,hv,rfl,hs⟩
  by_cases t6:s.len<256;rotate_left
  .repeat' first|refine ga ?_|refine Of (t:=40) (s.cells v) (Yb s.co).enc ?_|refine cq xG ?_
   exact Wa [ta b s v,hv] rfl rfl ⟨rfl,v,hv,rfl,hs⟩
  by_cases t5:Xc e
  .exact absurd ⟨t1,t2,t3,t4,t5,t6⟩ hT
  .rw[gj t5] at kj;repeat' first|refine ga ?_|refine Of (t:=40) (s.cells v) (Yb s.co).enc ?_|refine Of (t:=49) e.enc e.enc ?_|refine cq xG ?_|refine cq kj ?_
   exact Wa [ta b s v,hv] rfl rfl ⟨rfl,v,hv,rfl,hs⟩
def QK(ok:Lb s)(b:Nat)(v:Value)(fr ep du st:Int):
  Ct prog 89 [b,fr,ep,du,st] [ta b s v] (λr H'=>r= .bool (s.heard fr ep du st).1/\H'=[ta b (s.heard fr ep du st).2 v]):=by
 have Qs:=fo ok.co s.nd;have KK:=dI ok.co fr;by_cases hT:ep=(Yb s.co).ep/\0<=fr/\fr=Wc s.co s.nd
 .have e0:s.heard fr ep du st=(true,(s.Mb fr (mn du s.du) (mn st s.du)).settle):=if_pos hT;rw[e0];obtain⟨t1,t2,t3⟩:=hT;have t0:=kO ok.co (n:=s.nd) (by omega);generalize Wc s.co s.nd=bh at Qs t3;refine wj func89 λg R=>?_
  cases hf:xm s.co fr with
  |true=>
   rw[hf] at KK;have e1:s.Mb fr (mn du s.du) (mn st s.du)={s with ak:=mx s.ak (mn du s.du),st:=mx s.st (mn st s.du)}:=if_pos hf;rw[e1];refine wq ?_;repeat' first|refine ga ?_|refine Of (t:=40) (s.cells v) (Yb s.co).enc ?_|refine cq Qs ?_
   refine Wh (s.cells v) (CS.cells {s with ak:=mx s.ak (mn du s.du)} v) ?_;repeat' first|refine ga ?_|refine Of (t:=40) (CS.cells {s with ak:=mx s.ak (mn du s.du)} v) (Yb s.co).enc ?_|refine cq KK ?_
   refine sK (ml [12]) [ta b {s with ak:=mx s.ak (mn du s.du)} v] ?_;try refine ga ?_
   refine Wh (CS.cells {s with ak:=mx s.ak (mn du s.du)} v) (CS.cells {s with ak:=mx s.ak (mn du s.du),st:=mx s.st (mn st s.du)} v) ?_;try refine ga ?_
   refine ck (Bf (s:={s with ak:=mx s.ak (mn du s.du),st:=mx s.st (mn st s.du)}) ok.co b v) ?_;rintro _ _ ⟨rfl,rfl⟩;refine vb ?_
   exact vj [ta b (CS.settle ({s with ak:=mx s.ak (mn du s.du),st:=mx s.st (mn st s.du)})) v]
  |false=>
   rw[hf] at KK
   cases hsu:s.su with
   |true=>
    have e1:s.Mb fr (mn du s.du) (mn st s.du)={s with ak:=mx s.ak (mn du s.du),su:=true,st:=mx (mx s.st s.bs) (mn du s.du)}:=by unfold CS.Mb;rw[if_neg (by rw[hf];decide),if_pos (.inl hsu)]
    rw[e1];clear e0 e1;refine wq ?_;repeat' first|refine ga ?_|refine Of (t:=40) (s.cells v) (Yb s.co).enc ?_|refine cq Qs ?_
    refine Wh (s.cells v) (CS.cells {s with ak:=mx s.ak (mn du s.du)} v) ?_;repeat' first|refine ga ?_|refine Of (t:=40) (CS.cells {s with ak:=mx s.ak (mn du s.du)} v) (Yb s.co).enc ?_|refine cq KK ?_
    refine WX.as 83 (.bool true) rfl (by rw[hsu]) ?_;try refine ga ?_
    refine Wh (CS.cells {s with ak:=mx s.ak (mn du s.du)} v) (CS.cells {s with ak:=mx s.ak (mn du s.du),su:=true} v) ?_;try refine ga ?_
    refine sK (ml [11]) [ta b {s with ak:=mx s.ak (mn du s.du),su:=true} v] ?_;repeat' first|refine ga ?_|refine WX.KQ rfl rfl rfl rfl ?_
    refine Wh (CS.cells {s with ak:=mx s.ak (mn du s.du),su:=true} v) (CS.cells {s with ak:=mx s.ak (mn du s.du),su:=true,st:=mx (mx s.st s.bs) (mn du s.du)} v) ?_;try refine ga ?_
    refine ck (Bf (s:={s with ak:=mx s.ak (mn du s.du),su:=true,st:=mx (mx s.st s.bs) (mn du s.du)}) ok.co b v) ?_;rintro _ _ ⟨rfl,rfl⟩;refine vb ?_
    exact vj [ta b (CS.settle ({s with ak:=mx s.ak (mn du s.du),su:=true,st:=mx (mx s.st s.bs) (mn du s.du)})) v]
   |false=>
    by_cases hw:(if s.du<du then s.du else du)>=s.ow
    .have e1:s.Mb fr (mn du s.du) (mn st s.du)={s with ak:=mx s.ak (mn du s.du),su:=true,st:=mx (mx s.st s.bs) (mn du s.du)}:=by unfold CS.Mb;rw[if_neg (by rw[hf];decide),if_pos (.inr hw)]
     rw[e1];clear e0 e1;refine wq ?_;repeat' first|refine ga ?_|refine Of (t:=40) (s.cells v) (Yb s.co).enc ?_|refine cq Qs ?_
     refine Wh (s.cells v) (CS.cells {s with ak:=mx s.ak (mn du s.du)} v) ?_;repeat' first|refine ga ?_|refine Of (t:=40) (CS.cells {s with ak:=mx s.ak (mn du s.du)} v) (Yb s.co).enc ?_|refine cq KK ?_
     refine WX.as 83 (.bool false) rfl (by rw[hsu]) ?_;try refine ga ?_
     refine Wh (CS.cells {s with ak:=mx s.ak (mn du s.du)} v) (CS.cells {s with ak:=mx s.ak (mn du s.du),su:=true} v) ?_;try refine ga ?_
     refine sK (ml [11]) [ta b {s with ak:=mx s.ak (mn du s.du),su:=true} v] ?_;repeat' first|refine ga ?_|refine WX.KQ rfl rfl rfl rfl ?_
     refine Wh (CS.cells {s with ak:=mx s.ak (mn du s.du),su:=true} v) (CS.cells {s with ak:=mx s.ak (mn du s.du),su:=true,st:=mx (mx s.st s.bs) (mn du s.du)} v) ?_;try refine ga ?_
     refine ck (Bf (s:={s with ak:=mx s.ak (mn du s.du),su:=true,st:=mx (mx s.st s.bs) (mn du s.du)}) ok.co b v) ?_;rintro _ _ ⟨rfl,rfl⟩;refine vb ?_;exact vj [ta b (CS.settle ({s with ak:=mx s.ak (mn du s.du),su:=true,st:=mx (mx s.st s.bs) (mn du s.du)})) v]
    .have e1:s.Mb fr (mn du s.du) (mn st s.du)={s with ak:=mx s.ak (mn du s.du)}:=by
      unfold CS.Mb;rw[if_neg (by rw[hf];decide),if_neg (λh=>h.elim (λh=>by rw[hsu] at h;cases h) hw)]
     rw[e1];clear e0 e1;refine wq ?_;repeat' first|refine ga ?_|refine Of (t:=40) (s.cells v) (Yb s.co).enc ?_|refine cq Qs ?_
     refine Wh (s.cells v) (CS.cells {s with ak:=mx s.ak (mn du s.du)} v) ?_;repeat' first|refine ga ?_|refine Of (t:=40) (CS.cells {s with ak:=mx s.ak (mn du s.du)} v) (Yb s.co).enc ?_|refine cq KK ?_
     refine WX.as 83 (.bool false) rfl (by rw[hsu]) ?_;try refine ga ?_
     refine ck (Bf (s:={s with ak:=mx s.ak (mn du s.du)}) ok.co b v) ?_;rintro _ _ ⟨rfl,rfl⟩;refine vb ?_;exact vj [ta b (CS.settle ({s with ak:=mx s.ak (mn du s.du)})) v]
 .have e0:s.heard fr ep du st=(false,s):=if_neg hT;rw[e0];clear e0;refine wj func89 λg R=>?_;refine wq ?_;by_cases t0:(Yb s.co).ep=0
  .try refine ga ?_
   exact vj [ta b s v]
  by_cases t1:ep=(Yb s.co).ep;rotate_left
  .try refine ga ?_
   exact vj [ta b s v]
  by_cases t2:0<=fr;rotate_left
  .try refine ga ?_
   exact vj [ta b s v]
  by_cases t3:fr=Wc s.co s.nd
  .exact absurd ⟨t1,t2,t3⟩ hT
  .repeat' first|refine ga ?_|refine Of (t:=40) (s.cells v) (Yb s.co).enc ?_|refine cq Qs ?_
   exact vj [ta b s v]
end Go.Proofs.YthebagfahkebiaaGreat
