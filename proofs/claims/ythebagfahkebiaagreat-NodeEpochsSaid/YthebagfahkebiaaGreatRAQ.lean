/- Texts of one road. -/
import Derived.Test.YthebagfahkebiaaGreatRows
import Derived.Test.YthebagfahkebiaaGreatRAJ
set_option linter.all false
set_option maxHeartbeats 8000000
set_option maxRecDepth 20000
namespace Go.Proofs.YthebagfahkebiaaGreat
open Go Go.Sl Go.Proofs.Tryz List
def Tryz.own:ownKnob prog.godebug=none:=by kernel_rfl
def Tryz.laidOut:laidOutB prog=true:=by kernel_rfl
variable{k:Nat}
def iR{c:Ch}(h:c.ms.length<=4){m:Mem}(hk:c.ms[k]? =some m):((c.cfg.enc).drop (0+2+((k:Nat):Int).toNat*2)).take 2=m.enc:=by
 obtain⟨ep,ms,ln⟩:=c;simp only[] at h hk;have hlt:=(List.getElem?_eq_some_iff.1 hk).1
 match ms,h with
 |[],_=>simp at hk
 |[a],_=>
  rcases(by simp at hlt;omega:k=0) with rfl
  cases hk;rfl
 |[a,a2],_=>
  rcases(by simp at hlt;omega:k=0\/k=1) with rfl|rfl<;>cases hk<;>rfl
 |[a,a2,a3],_=>
  rcases(by simp at hlt;omega:k=0\/k=1\/k=2) with rfl|rfl|rfl<;>cases hk<;>rfl
 |[a,a2,a3,a4],_=>
  rcases(by simp at hlt;omega:k=0\/k=1\/k=2\/k=3) with rfl|rfl|rfl|rfl<;>cases hk<;>rfl
def zV{c:Ch}(h:c.ms.length<=4)(h1:c.ms.length<=k)(h2:k<4):((c.cfg.enc).drop (0+2+((k:Nat):Int).toNat*2)).take 2=Mem.z.enc:=by
 obtain⟨ep,ms,ln⟩:=c;simp only[] at h h1
 match ms,h with
 |[],_=>
  rcases(by omega:k=0\/k=1\/k=2\/k=3) with rfl|rfl|rfl|rfl<;>rfl
 |[a],_=>
  rcases(by simp at h1;omega:k=1\/k=2\/k=3) with rfl|rfl|rfl<;>rfl
 |[a,a2],_=>
  rcases(by simp at h1;omega:k=2\/k=3) with rfl|rfl<;>rfl
 |[a,a2,a3],_=>
  rcases(by simp at h1;omega:k=3) with rfl
  rfl
 |[a,a2,a3,a4],_=>simp at h1;omega
def Rw{c:Ch}(ok:Ag c):
  Ct prog 141 [.agg (List.toArray c.cfg.enc)] [] (λr H'=>∃h',ia 37 c.all r h'/\H'=[h']):=by
 have h4:=gR ok;have hn:c.cfg.n=(c.ms.length:Int):=rfl;refine ce func141 λg R=>?_;repeat' first|refine rn ?_|refine Uc λ_=>?_
 rename_i b;refine W.Pe ?_;refine W.lo (α:=Nat×Value×Hp) (λx=>x.1<=c.ms.length/\ia 37 (c.ms.take x.1) x.2.1 x.2.2) (λx=>[(1,b),(3,x.2.1),(4,.int .i64 (x.1:Int))]) (λx=>[x.2.2,od b c.cfg,R]) (λx=>c.ms.length - x.1) (0,.slice none 0 0,[]) ⟨di _,ia.nil _⟩ ?_;rintro⟨k,v,h⟩ ⟨hk,hs⟩;simp only[] at hk hs⊢;by_cases hlt:k<c.ms.length
 .obtain⟨m,hm⟩:=Lh hlt;have Cj:=iR h4 hm;have htl:(c.ms.take k).length<=4:=by rw[Oe];omega
  repeat' first|refine run ?_|refine WX.Ea rfl Cj rfl rfl ?_
  refine Up [m] (λv2 h2 Sa=>?_);refine Jt (zb:=by simp only[Ib,td];omega) hs Sa.rs (λv3 h3 Cc=>?_);rw[show c.ms.take k++[m]=c.ms.take (k+1) by rw[take_add_one,hm];rfl] at Cc;try refine run ?_
  exact D.rd (k+1,v3,h3) ⟨by simp only[];omega,Cc⟩ (by simp only[];omega)
 .obtain rfl:k=c.ms.length:=by omega
  rw[take_length] at hs
  cases hl:c.ln with
  |none=>
   have hj:c.cfg.jo=false:=by show c.ln.isSome=false;rw[hl];rfl
   try refine run ?_
   rw[hj];try refine run ?_
   exact Xa [h] rfl rfl ⟨h,by simpa[Ch.all,hl] using hs,rfl⟩
  |some m=>
   have hj:c.cfg.jo=true:=by show c.ln.isSome=true;rw[hl];rfl
   have hle:c.cfg.le=m:=by show c.ln.getD Mem.z=m;rw[hl];rfl
   try refine run ?_
   rw[hj];try refine run ?_
   refine Up [c.cfg.le] (λv2 h2 Sa=>?_);rw[hle] at Sa;refine Jt (zb:=by simp only[Ib,td];omega) hs Sa.rs (λv3 h3 Cc=>?_);try refine run ?_
   exact Xa [h3] rfl rfl ⟨h3,by simpa[Ch.all,hl] using Cc,rfl⟩
def YO{c:Ch}(ok:Ag c){i:Nat}{x y:Mem}(hk:k<i)(hx:c.all[k]? =some x)(hy:c.all[i]? =some y): ¬x.nd=y.nd:=by
 have h:=RR ok hy;rw[any_eq_false] at h;have:=h x (mem_of_getElem? (i:=k) (by rw[List.getElem?_take,if_pos hk];exact hx));simpa using this
def zv{c:Ch}(ok:Ag c):Ct prog 214 [.agg (List.toArray c.cfg.enc)] [] (λr H'=>r= .bool true/\H'=[]):=by
 have h4:=gR ok;have dR:=Rw ok;have eX:1<=c.cfg.ep:=ok.e1;have Y0:c.cfg.ep<=1099511627776:=ok.e2;have ic:1<=c.cfg.n:=by have:=ok.l1;show(1:Int)<=(c.ms.length:Int);omega
 have OX:c.cfg.n<=4:=by show(c.ms.length:Int)<=4;omega
 have hn:c.cfg.n=(c.ms.length:Int):=rfl;have hall:c.all.length<=4:=by have:=ok.l4;unfold Ch.all;rw[Eb];exact this
 refine ce func214 λg R=>?_;repeat' first|refine rn ?_|refine Uc λ_=>?_
 rename_i b;refine ck dR ?_;rintro v _ ⟨h,hs,rfl⟩;have hr:=hs.rs;obtain⟨vp,vc,rfl⟩:=hr.len;refine rn ?_;refine W.lo (α:=Nat) (λk=>k<=c.all.length) (λk=>[(1,b),(3,.slice vp c.all.length vc),(4,.int .i64 (k:Int))]) (λ_=>[h,od b c.cfg,R]) (λk=>c.all.length - k) 0 (di _) ?_;intro i hi;by_cases hlt:i<c.all.length
 .obtain⟨m,hm⟩:=Lh hlt;have nr:=ok.rg m (mem_of_getElem? hm);have nr:0<=m.nd/\m.nd<4/\1<=m.sn/\m.sn<=c.cfg.ep:=nr;try refine run ?_
  refine wr ?_;refine W.lo (α:=Nat) (λk=>k<=i) (λk=>[(1,b),(3,.slice vp c.all.length vc),(4,.int .i64 (i:Int)),(5,.int .i64 (k:Int))]) (λ_=>[h,od b c.cfg,R]) (λk=>i - k) 0 (di _) ?_;intro k hk;by_cases hlk:k<i
  .obtain⟨x,hx⟩:∃x,c.all[k]? =some x:=⟨_,Wg (by omega)⟩;have hne:=YO ok hlk hx hm;try refine run ?_
   refine wr ?_;exact D.re (k+1)
  .obtain rfl:k=i:=by omega
   try refine run ?_
   exact D.re (k+1)
 .obtain rfl:i=c.all.length:=by omega
  try refine run ?_
  refine W.lo (α:=Nat) (λk=>c.ms.length<=k/\k<=4) (λk=>[(1,b),(6,.int .i64 (k:Int))]) (λ_=>[od b c.cfg,R]) (λk=>4 - k) c.ms.length ⟨Nat.le_refl _,h4⟩ ?_;rintro k ⟨hk,FU⟩;by_cases hlk:k<4
  .have hz:=zV h4 hk hlk;repeat' first|refine run ?_|refine WX.Ea rfl hz rfl rfl ?_|refine WX.aj (b:=true) rfl rfl rfl rfl ?_
   exact D.rd (k+1) ⟨by omega,by omega⟩ (by omega)
  .cases hl:c.ln with
   |none=>
    have hj:c.cfg.jo=false:=by show c.ln.isSome=false;rw[hl];rfl
    have hle:c.cfg.le=Mem.z:=by show c.ln.getD Mem.z=Mem.z;rw[hl];rfl
    try refine run ?_
    rw[hj];repeat' first|refine run ?_|(refine I.bin ?_;refine WX.aq (b:=true) (xs:=Mem.enc c.cfg.le) rfl rfl (by rw[hle];rfl) rfl ?_)
    exact Wi []
   |some m=>
    have hj:c.cfg.jo=true:=by show c.ln.isSome=true;rw[hl];rfl
    try refine run ?_
    rw[hj];try refine run ?_
    exact Wi []
def zO{c:Ch}(ok:Ag c)(k:Int):Ct prog 140 [.agg (List.toArray c.cfg.enc),k] [] (λr H'=>r= .int .i64 (wG c.all k)/\H'=[]):=by
 have hall:c.all.length<=4:=by have:=ok.l4;unfold Ch.all;rw[Eb];exact this
 have hrc:=zv ok;have dR:=Rw ok;refine ce func140 λg R=>?_;repeat' first|refine rn ?_|refine Uc λ_=>?_|refine cq hrc ?_
 rename_i b;refine ck dR ?_;rintro v _ ⟨h,hs,rfl⟩;have hr:=hs.rs;obtain⟨vp,vc,rfl⟩:=hr.len;refine rn ?_;refine W.lo (α:=Nat) (λj=>j<=c.all.length/\∀i p,i<j->c.all[i]? =some p-> ¬p.nd=k) (λj=>[(1,k),(5,.slice vp c.all.length vc),(6,.int .i64 (j:Int))]) (λ_=>[h,R]) (λj=>c.all.length - j) 0 ⟨di _,λi p hi=>absurd hi (Nat.not_lt_zero _)⟩ ?_;rintro j ⟨hj,hno⟩;by_cases hlt:j<c.all.length
 .obtain⟨p,hp⟩:=Lh hlt;by_cases hpk:p.nd=k
  .have hres:=SR hp hpk hno;try refine run ?_
   exact Xa [] rfl rfl ⟨by rw[hres],rfl⟩
  .try refine run ?_
   refine D.rd (j+1) ⟨by omega,λi q hi hq=>?_⟩ (by omega);rcases Nat.lt_or_ge i j with h|h
   .exact hno i q h hq
   .obtain rfl:i=j:=by omega
    rw[hp] at hq;cases hq;exact hpk
 .have hres:wG c.all k= -1:=TR (λx hx=>by
   obtain⟨i,hi⟩:=mem_iff_getElem?.1 hx;have hlt:=(List.getElem?_eq_some_iff.1 hi).1;exact hno i x (by omega) hi)
  try refine run ?_
  exact Xa [] rfl rfl ⟨by rw[hres],rfl⟩
variable{es:List ya}
def uk(dc rg sq:Int):Ct prog 242 [.agg (List.toArray [dc,rg,sq])] [] (λr H'=>r= .bool (decide (Tb dc rg))/\H'=[]):=by
 refine ce func242 λg R=>?_;simp only[can];by_cases h0:0<=dc
 .by_cases h1:dc<3
  .by_cases h2:0<=rg
   .repeat' first|refine run ?_|refine Uc λ_=>?_
    exact Xa [] rfl rfl ⟨by simp[h0,h1,h2],rfl⟩
   .repeat' first|refine run ?_|refine Uc λ_=>?_
    exact Xa [] rfl rfl ⟨by simp[h0,h1,h2],rfl⟩
  .repeat' first|refine run ?_|refine Uc λ_=>?_
   exact Xa [] rfl rfl ⟨by simp[h0,h1],rfl⟩
 .repeat' first|refine run ?_|refine Uc λ_=>?_
  exact Xa [] rfl rfl ⟨by simp[h0],rfl⟩
def Zy(ct dc rg:Int):Ct prog 249 [.agg (List.toArray [ct,dc,rg])] [] (λr H'=>r= .bool (decide (ki ct dc rg))/\H'=[]):=by
 refine ce func249 λg R=>?_;simp only[can];by_cases h0:1<=ct
 .by_cases h1:ct<=1099511627776
  .by_cases h2:0<=dc
   .by_cases h3:dc<3
    .by_cases h4:0<=rg
     .repeat' first|refine run ?_|refine Uc λ_=>?_
      exact Xa [] rfl rfl ⟨by simp[h0,h1,h2,h3,h4],rfl⟩
     .repeat' first|refine run ?_|refine Uc λ_=>?_
      exact Xa [] rfl rfl ⟨by simp[h0,h1,h2,h3,h4],rfl⟩
    .repeat' first|refine run ?_|refine Uc λ_=>?_
     exact Xa [] rfl rfl ⟨by simp[h0,h1,h2,h3],rfl⟩
   .repeat' first|refine run ?_|refine Uc λ_=>?_
    exact Xa [] rfl rfl ⟨by simp[h0,h1,h2],rfl⟩
  .repeat' first|refine run ?_|refine Uc λ_=>?_
   exact Xa [] rfl rfl ⟨by simp[h0,h1],rfl⟩
 .repeat' first|refine run ?_|refine Uc λ_=>?_
  exact Xa [] rfl rfl ⟨by simp[h0],rfl⟩
def bL(v:V9):Ct prog 250 [.agg (List.toArray v.enc)] [] (λr H'=>r= .bool (decide (Xi v))/\H'=[]):=by
 refine ce func250 λg R=>?_;repeat' first|refine rn ?_|refine bx rfl λ_=>?_
 rename_i b;refine W.hp (H':=[Ra b v,R]) rfl ?_;refine W.lo (α:=Nat) (λd=>d<=3/\∀i,i<3*d->0<=v.at i/\v.at i<=MC) (λd=>[(1,.pointer (some ⟨b,0,none⟩)),(3,.int .i64 (d:Int))]) (λ_=>[Ra b v,R]) (λd=>3 - d) 0 ⟨Nat.zero_le _,λi hi=>absurd hi (Nat.not_lt_zero _)⟩ ?_;rintro d ⟨hd,hall⟩;by_cases hlt:d<3
 .try refine run ?_
  refine W.lo (α:=Nat) (λr=>r<=3/\∀i,i<3*d+r->0<=v.at i/\v.at i<=MC) (λr=>[(1,.pointer (some ⟨b,0,none⟩)),(3,.int .i64 (d:Int)),(4,.int .i64 (r:Int))]) (λ_=>[Ra b v,R]) (λr=>3 - r) 0 ⟨Nat.zero_le _,hall⟩ ?_;rintro r ⟨hr,dI⟩;by_cases hlr:r<3
  .have hk:3*d+r<9:=by omega
   generalize hx:v.at (3*d+r)=x;have g1:v.enc[0+((d:Nat):Int).toNat*3+((r:Nat):Int).toNat*1]? =some (.int .i64 x):=by rw[show 0+((d:Nat):Int).toNat*3+((r:Nat):Int).toNat*1=3*d+r by show 0+d*3+r*1=_;omega,V9.Wd _ hk,hx]
   by_cases hg:0<=x/\x<=1099511627776
   .obtain⟨m1,m2⟩:=hg;repeat' first|refine run ?_|refine lN v.enc _ rfl ?_ (hc:=g1)
    refine D.rd (r+1) ⟨by omega,λi hi=>?_⟩ (by omega);rcases Nat.lt_or_ge i (3*d+r) with h|h
    .exact dI i h
    .obtain rfl:i=3*d+r:=by omega
     rw[hx];exact⟨m1,m2⟩
   .have hno: ¬Xi v:=λh=>hg (by have:=h (3*d+r) (by omega);rw[hx] at this;exact this);by_cases m1:x<0
    .repeat' first|refine run ?_|refine lN v.enc _ rfl ?_ (hc:=g1)
     exact Xa [] rfl rfl ⟨by rw[decide_eq_false hno],rfl⟩
    .have m2:1099511627776<x:=by omega
     repeat' first|refine run ?_|refine lN v.enc _ rfl ?_ (hc:=g1)
     exact Xa [] rfl rfl ⟨by rw[decide_eq_false hno],rfl⟩
  .obtain rfl:r=3:=by omega
   try refine run ?_
   exact D.rd (d+1) ⟨by omega,λi hi=>dI i (by omega)⟩ (by omega)
 .obtain rfl:d=3:=by omega
  try refine run ?_
  exact Xa [] rfl rfl ⟨by rw[decide_eq_true (show Xi v from hall)],rfl⟩
abbrev PX(b:Nat)(dc rg sq:Int):Hp:=[(b,.cells (List.toArray [dc,rg,sq]) 42 (0,0))]
def yO(v:V9)(dc rg sq:Int):Ct prog 319 [.agg (List.toArray v.enc),.agg (List.toArray [dc,rg,sq])] [] (λr H'=>r= .agg (List.toArray (Fg v dc rg sq).enc)/\H'=[]):=by
 have hch:=uk dc rg sq;refine ce func319 λg R=>?_;simp only[can];by_cases hD:Tb dc rg
 .rw[Mi hD] at hch;rw[show Fg v dc rg sq=_ from if_pos hD];obtain⟨c1,c2,c3,c4⟩:=hD;have hk:dc.toNat*3+rg.toNat<9:=by omega
  have e0:0+dc.toNat*3+rg.toNat*1=dc.toNat*3+rg.toNat:=by omega
  have g1:v.enc[0+dc.toNat*3+rg.toNat*1]? =some (.int .i64 (v.at (dc.toNat*3+rg.toNat))):=by rw[e0,V9.Wd _ hk]
  generalize hw:v.put (dc.toNat*3+rg.toNat) (mx (v.at (dc.toNat*3+rg.toNat)) sq)=o;have g3:v.enc.set (0+dc.toNat*3+rg.toNat*1) (.int .i64 (mx (v.at (dc.toNat*3+rg.toNat)) sq))=o.enc:=by rw[e0,V9.tj _ hk,hw]
  have g4:Nat.blt (0+dc.toNat*3+rg.toNat*1) v.enc.length=true:=Nat.ble_eq_true_of_le (by rw[e0];show dc.toNat*3+rg.toNat+1<=9;omega);repeat' first|refine run ?_|refine Uc λ_=>?_|refine al λ_=>?_|refine cq hch ?_
  rename_i b2 b3 b4;refine W.h0 [Ra b4 V9.z,PX b3 dc rg sq,Ra b2 v,R] ?_;refine KK (ml [16]) [PX b3 dc rg sq,Ra b2 v] ?_;repeat' first|refine run ?_|refine lN v.enc _ rfl ?_ (hc:=g1)
  refine ei v.enc o.enc ?_ (e:=g3) (hb:=g4);try refine run ?_
  exact D.Gc [] _ rfl (.Va rfl rfl .nil) ⟨rfl,rfl⟩
 .rw[rj hD] at hch;rw[show Fg v dc rg sq=_ from if_neg hD];repeat' first|refine run ?_|refine Uc λ_=>?_|refine al λ_=>?_|refine cq hch ?_
  exact D.Gc [] _ rfl (.Va rfl rfl .nil) ⟨rfl,rfl⟩
def R5(i j:Int):Int:=mx (mx 0 i) j
def Xq(a b:V9)(k:Nat):V9:=V9.MM λi=>if i<k then R5 (a.at i) (b.at i) else 0
def DE(a b:V9):V9:=Xq a b 9
def QX(a b:V9):Xq a b 0=V9.z:=by unfold Xq;exact(V9.zn λi _=>if_neg (Nat.not_lt_zero _)).trans rfl
def aR(a b:V9){k:Nat}(h:k<9):(Xq a b k).put k (R5 (a.at k) (b.at k))=Xq a b (k+1):=by
 unfold V9.put;show V9.MM _=V9.MM _;refine V9.zn λi hi=>?_;unfold V0 Xq;by_cases e:i=k
 .subst e;rw[if_pos rfl,if_pos (by omega)]
 .rw[if_neg e,V9.qv _ hi];by_cases h2:i<k
  .rw[if_pos h2,if_pos (by omega)]
  .rw[if_neg h2,if_neg (by omega)]
def PM(a b:V9):Ct prog 283 [.agg (List.toArray a.enc),.agg (List.toArray b.enc)] [] (λr H'=>r= .agg (List.toArray (DE a b).enc)/\H'=[]):=by
 refine ce func283 λg R=>?_;repeat' first|refine rn ?_|refine Uc λ_=>?_|refine al λ_=>?_
 rename_i b2 b3 b4 b5;refine W.hp (H':=[Ra b5 (Xq a b (3*0)),Ra b4 V9.z,Ra b3 b,Ra b2 a,R]) (by rw[QX];rfl) ?_;refine W.lo (α:=Nat) (λd=>d<=3) (λd=>[(2,b2),(3,b3),(4,b4),(5,b5),(6,.int .i64 (d:Int))]) (λd=>[Ra b5 (Xq a b (3*d)),Ra b4 V9.z,Ra b3 b,Ra b2 a,R]) (λd=>3 - d) 0 (di _) ?_;intro d hd;by_cases hld:d<3
 .try refine run ?_
  refine W.lo (α:=Nat) (λr=>r<=3) (λr=>[(2,b2),(3,b3),(4,b4),(5,b5),(6,.int .i64 (d:Int)),(7,.int .i64 (r:Int))]) (λr=>[Ra b5 (Xq a b (3*d+r)),Ra b4 V9.z,Ra b3 b,Ra b2 a,R]) (λr=>3 - r) 0 (di _) ?_;intro r hr;by_cases hlr:r<3
  .have hk:3*d+r<9:=by omega
   have e0:0+((d:Nat):Int).toNat*3+((r:Nat):Int).toNat*1=3*d+r:=by show 0+d*3+r*1=_;omega
   have g1:a.enc[0+((d:Nat):Int).toNat*3+((r:Nat):Int).toNat*1]? =some (.int .i64 (a.at (3*d+r))):=by rw[e0,V9.Wd _ hk]
   have g2:b.enc[0+((d:Nat):Int).toNat*3+((r:Nat):Int).toNat*1]? =some (.int .i64 (b.at (3*d+r))):=by rw[e0,V9.Wd _ hk]
   have g3:(Xq a b (3*d+r)).enc.set (0+((d:Nat):Int).toNat*3+((r:Nat):Int).toNat*1) (.int .i64 (R5 (a.at (3*d+r)) (b.at (3*d+r))))=(Xq a b (3*d+(r+1))).enc:=by rw[e0,V9.tj _ hk,aR _ _ hk];rfl
   have g4:Nat.blt (0+((d:Nat):Int).toNat*3+((r:Nat):Int).toNat*1) (Xq a b (3*d+r)).enc.length=true:=Nat.ble_eq_true_of_le (by rw[e0];show 3*d+r+1<=9;omega);try refine run ?_
   refine KK (ml [15]) [Ra b3 b,Ra b2 a] ?_;repeat' first|refine run ?_|refine lN a.enc _ rfl ?_ (hc:=g1)|refine lN b.enc _ rfl ?_ (hc:=g2)|refine WX.WQ rfl rfl rfl rfl ?_
   refine ei (Xq a b (3*d+r)).enc (Xq a b (3*d+(r+1))).enc ?_ (e:=g3) (hb:=g4);try refine run ?_
   exact D.re (r+1)
  .obtain rfl:r=3:=by omega
   try refine run ?_
   exact D.re (d+1)
 .obtain rfl:d=3:=by omega
  rw[show Xq a b (3*3)=DE a b from rfl];generalize DE a b=o;try refine run ?_
  exact D.Gc [] _ rfl (.Va rfl rfl .nil) ⟨rfl,rfl⟩
def zh(es:List ya):V9:=es.foldl (λo e=>Fg (DE o e.dp) e.dc e.rg e.sq) V9.z
def lI{i:Nat}{x:ya}(h:es[i]? =some x):zh (es.take (i+1))=Fg (DE (zh (es.take i)) x.dp) x.dc x.rg x.sq:=by
 unfold zh;rw[take_add_one,h,foldl_append];rfl
def bR{u:Value}{h:Hp}(hs:Rs es u h)(hl:es.length<=1000000):
  Ct prog 284 [u] [h] (λr H'=>r= .agg (List.toArray (zh es).enc)/\H'=[h]):=by
 obtain⟨up,uc,rfl⟩:=hs.len;refine ce func284 λg R=>?_;repeat' first|refine Za ?_|refine al λ_=>?_
 rename_i b2 b3;refine W.h0 [Ra b3 (zh (es.take 0)),Ra b2 V9.z,h,R] ?_;refine W.lo (α:=Nat) (λi=>i<=es.length) (λi=>[(0,.slice up es.length uc),(2,b2),(3,b3),(4,.int .i64 (i:Int))]) (λi=>[Ra b3 (zh (es.take i)),Ra b2 V9.z,h,R]) (λi=>es.length - i) 0 (di _) ?_;intro i hi;by_cases hlt:i<es.length
 .obtain⟨x,hx⟩:=Lh hlt;have Qe:=lI hx;generalize zh (es.take i)=o at Qe⊢;have ht:=PM o x.dp;have hw:=yO (DE o x.dp) x.dc x.rg x.sq;rw[<-Qe] at hw;try refine ga ?_
  refine KK (ml [6,1,5,1]) [Ra b3 o,h] ?_;repeat' first|refine ga ?_|refine Pg o.enc ?_|refine WX.fo (t:=47) (us:=x.dp.enc) rfl hs hx rfl rfl rfl rfl ?_|refine WX.fo (t:=42) (us:=[x.dc,x.rg,x.sq]) rfl hs hx rfl rfl rfl rfl ?_|refine cq ht ?_|refine cq hw ?_|refine xg o.enc (zh (es.take (i+1))).enc ?_
  exact D.re (i+1)
 .obtain rfl:i=es.length:=by omega
  rw[take_length];generalize zh es=o;repeat' first|refine ga ?_|refine Pg o.enc ?_|refine xg V9.z.enc o.enc ?_
  exact D.Gc [h] _ rfl (.Va rfl rfl .nil) ⟨rfl,rfl⟩
variable{u:Value}{h:Hp}
def Qt(v:V9)(rg:Int):
  Ct prog 240 [.agg (List.toArray v.enc),rg] [] (λr H'=>r= .agg (List.toArray (og v rg).enc)/\H'=[]):=by
 refine ce func240 λg R=>?_;repeat' first|refine Za ?_|refine Uc λ_=>?_|refine al λ_=>?_
 rename_i b2 b4 b5;by_cases nr:0<=rg/\rg<3
 .obtain⟨r1,r2⟩:=nr;rw[show og v rg=qg v rg.toNat 3 by unfold og;rw[if_pos ⟨r1,r2⟩];simp[qg]];refine W.h0 [Mc b5 (qg v rg.toNat 0),Mc b4 V3.z,Ra b2 v,R] ?_;refine W.lo (α:=Nat) (λk=>k<=3) (λk=>[(1,rg),(2,b2),(4,b4),(5,b5),(6,.int .i64 (k:Int))]) (λk=>[Mc b5 (qg v rg.toNat k),Mc b4 V3.z,Ra b2 v,R]) (λk=>3 - k) 0 (di _) ?_;intro k hk;by_cases hlt:k<3
  .have hb:3*k+rg.toNat<9:=by omega
   have g1:v.enc[0+((k:Nat):Int).toNat*3+rg.toNat*1]? =some (.int .i64 (v.at (3*k+rg.toNat))):=by rw[show 0+((k:Nat):Int).toNat*3+rg.toNat*1=3*k+rg.toNat by show 0+k*3+rg.toNat*1=_;omega,V9.Wd _ hb]
   have g3:(qg v rg.toNat k).enc.set (0+((k:Nat):Int).toNat*1) (.int .i64 (v.at (3*k+rg.toNat)))=(qg v rg.toNat (k+1)).enc:=by rw[show 0+((k:Nat):Int).toNat*1=k by show 0+k*1=k;omega,V3.tj _ hlt,mF _ _ hlt]
   have g4:Nat.blt (0+((k:Nat):Int).toNat*1) (qg v rg.toNat k).enc.length=true:=Nat.ble_eq_true_of_le (by show 0+k*1+1<=3;omega);repeat' first|refine ga ?_|refine lN v.enc _ rfl ?_ (hc:=g1)
   refine ei (qg v rg.toNat k).enc (qg v rg.toNat (k+1)).enc ?_ (e:=g3) (hb:=g4);try refine ga ?_
   exact D.re (k+1)
  .obtain rfl:k=3:=by omega
   generalize qg v rg.toNat 3=o;repeat' first|refine ga ?_|refine Pg o.enc ?_|refine xg V3.z.enc o.enc ?_
   exact D.Gc [] _ rfl (.Va rfl rfl .nil) ⟨rfl,rfl⟩
 .rw[show og v rg=V3.z from if_neg nr];refine W.h0 [Mc b5 V3.z,Mc b4 V3.z,Ra b2 v,R] ?_;by_cases h0:rg<0
  .refine W.lo (α:=Nat) (λk=>k<=0) (λk=>[(1,rg),(2,b2),(4,b4),(5,b5),(6,.int .i64 (k:Int))]) (λk=>[Mc b5 V3.z,Mc b4 V3.z,Ra b2 v,R]) (λk=>3 - k) 0 (di _) ?_;intro k hk;obtain rfl:k=0:=by omega
   repeat' first|refine ga ?_|refine Pg V3.z.enc ?_|refine xg V3.z.enc V3.z.enc ?_
   exact D.Gc [] _ rfl (.Va rfl rfl .nil) ⟨rfl,rfl⟩
  .have h3:3<=rg:=by omega
   refine W.lo (α:=Nat) (λk=>k<=0) (λk=>[(1,rg),(2,b2),(4,b4),(5,b5),(6,.int .i64 (k:Int))]) (λk=>[Mc b5 V3.z,Mc b4 V3.z,Ra b2 v,R]) (λk=>3 - k) 0 (di _) ?_;intro k hk;obtain rfl:k=0:=by omega
   repeat' first|refine ga ?_|refine Pg V3.z.enc ?_|refine xg V3.z.enc V3.z.enc ?_
   exact D.Gc [] _ rfl (.Va rfl rfl .nil) ⟨rfl,rfl⟩
def Zp(a b:V3):
  Ct prog 241 [.agg (List.toArray a.enc),.agg (List.toArray b.enc)] [] (λr H'=>r= .bool (decide (Lt a b))/\H'=[]):=by
 refine ce func241 λg R=>?_;simp only[can];by_cases h0:b.a<=a.a
 .by_cases h1:b.b<=a.b
  .repeat' first|refine run ?_|refine Uc λ_=>?_
   exact Xa [] rfl rfl ⟨by simp[h0,h1],rfl⟩
  .repeat' first|refine run ?_|refine Uc λ_=>?_
   exact Xa [] rfl rfl ⟨by simp[h0,h1],rfl⟩
 .repeat' first|refine run ?_|refine Uc λ_=>?_
  exact Xa [] rfl rfl ⟨by simp[h0],rfl⟩
def ko(rg:Int){es:List ya}(hs:Rs es u h)(hl:es.length<=1000000):
  Ct prog 196 [rg,u] [h] (λr H'=>r= .agg (List.toArray (Bc rg es).enc)/\H'=[h]):=by
 obtain⟨up,uc,rfl⟩:=hs.len;refine ce func196 λg R=>?_;repeat' first|refine Za ?_|refine al λ_=>?_
 rename_i b4 b5;refine W.h0 [Mc b5 (Bc rg (es.take 0)),Mc b4 V3.z,h,R] ?_;refine W.lo (α:=Nat) (λi=>i<=es.length) (λi=>[(0,rg),(1,.slice up es.length uc),(4,b4),(5,b5),(6,.int .i64 (i:Int))]) (λi=>[Mc b5 (Bc rg (es.take i)),Mc b4 V3.z,h,R]) (λi=>es.length - i) 0 (di _) ?_;intro i hi;by_cases hlt:i<es.length
 .obtain⟨x,hx⟩:=Lh hlt;have Qe:=nF (rg:=rg) hx;generalize Bc rg (es.take i)=o at Qe⊢;have hch:=uk x.dc x.rg x.sq;by_cases hg:x.rg=rg
  .by_cases hD:Tb x.dc x.rg
   .rw[Mi hD] at hch;rw[show ef rg o x=_ from if_pos ⟨hg,hg▸hD⟩] at Qe;obtain⟨c1,c2,c3,c4⟩:=hD;have hk:x.dc.toNat<3:=by omega
    have g1:o.enc[0+x.dc.toNat*1]? =some (.int .i64 (o.at x.dc.toNat)):=by rw[show 0+x.dc.toNat*1=x.dc.toNat by omega,V3.Wd _ hk]
    have g3:o.enc.set (0+x.dc.toNat*1) (.int .i64 (mx (o.at x.dc.toNat) x.sq))=(Bc rg (es.take (i+1))).enc:=by rw[show 0+x.dc.toNat*1=x.dc.toNat by omega,V3.tj _ hk,Qe]
    have g4:Nat.blt (0+x.dc.toNat*1) o.enc.length=true:=Nat.ble_eq_true_of_le (by show 0+x.dc.toNat*1+1<=3;omega);repeat' first|refine ga ?_|refine al λ_=>?_|refine WX.fo (t:=42) (us:=[x.dc,x.rg,x.sq]) rfl hs hx rfl rfl rfl rfl ?_|refine Xf (t:=42) [x.dc,x.rg,x.sq] [x.dc,x.rg,x.sq] ?_|refine xg [.int .i64 0,.int .i64 0,.int .i64 0] [x.dc,x.rg,x.sq] ?_|refine cq hch ?_
    rename_i b7;refine KK (ml [9]) [PX b7 x.dc x.rg x.sq,Mc b5 o] ?_;repeat' first|refine ga ?_|refine lN o.enc _ rfl ?_ (hc:=g1)
    refine ei o.enc (Bc rg (es.take (i+1))).enc ?_ (e:=g3) (hb:=g4);try refine ga ?_
    exact D.re (i+1)
   .rw[rj hD] at hch;rw[show ef rg o x=_ from if_neg λh=>hD (hg▸h.2)] at Qe;repeat' first|refine ga ?_|refine al λ_=>?_|refine WX.fo (t:=42) (us:=[x.dc,x.rg,x.sq]) rfl hs hx rfl rfl rfl rfl ?_|refine Xf (t:=42) [x.dc,x.rg,x.sq] [x.dc,x.rg,x.sq] ?_|refine xg [.int .i64 0,.int .i64 0,.int .i64 0] [x.dc,x.rg,x.sq] ?_|refine cq hch ?_
    rw[<-Qe];exact D.re (i+1)
  .rw[show ef rg o x=_ from if_neg λh=>hg h.1] at Qe;repeat' first|refine ga ?_|refine al λ_=>?_|refine WX.fo (t:=42) (us:=[x.dc,x.rg,x.sq]) rfl hs hx rfl rfl rfl rfl ?_|refine xg [.int .i64 0,.int .i64 0,.int .i64 0] [x.dc,x.rg,x.sq] ?_
   rw[<-Qe];exact D.re (i+1)
 .obtain rfl:i=es.length:=by omega
  rw[take_length];generalize Bc rg es=o;repeat' first|refine ga ?_|refine Pg o.enc ?_|refine xg V3.z.enc o.enc ?_
  exact D.Gc [h] _ rfl (.Va rfl rfl .nil) ⟨rfl,rfl⟩
def Oj(dc rg:Int)(xs:List Int):Bool:=decide (Je xs<MC/\ki (Je xs+1) dc rg)
def cR(dc rg:Int){xs:List Int}(hs:Rs xs u h)(hl:xs.length<=1000000):
  Ct prog 282 [dc,rg,u] [h] (λr H'=>r= .tuple #[.agg (List.toArray (Zn (Oj dc rg xs) (Je xs+1) dc rg)),.bool (Oj dc rg xs)]/\H'=[h]):=by
 have VA:=Uy xs;obtain⟨up,uc,rfl⟩:=hs.len;refine ce func282 λg R=>?_;repeat' first|refine Za ?_|refine al λ_=>?_
 rename_i b6;refine W.lo (α:=Nat) (λi=>i<=xs.length) (λi=>[(0,dc),(1,rg),(2,.slice up xs.length uc),(6,b6),(8,.int .i64 (Je (xs.take i))),(9,.int .i64 (i:Int))]) (λi=>[[(b6,.cells (List.toArray [.int .i64 0,.int .i64 0,.int .i64 0]) 44 (0,0))],h,R]) (λi=>xs.length - i) 0 (di _) ?_;intro i hi;by_cases hlt:i<xs.length
 .obtain⟨x,hx⟩:=Lh hlt;have Qe:=Ty hx;generalize Je (xs.take i)=o at Qe⊢;try refine run ?_
  refine D.as 8 (.int .i64 (Je (xs.take (i+1)))) rfl (by rw[Qe];rfl) ?_;exact D.re (i+1)
 .obtain rfl:i=xs.length:=by omega
  rw[take_length];obtain⟨ok,hok⟩:∃b,Oj dc rg xs=b:=⟨_,rfl⟩;have cL:decide (Je xs<1099511627776/\ki (Je xs+1) dc rg)=ok:=hok;rw[hok];generalize Je xs=o at VA cL⊢;have Mw:=Zy (o+1) dc rg;by_cases hm:o<1099511627776
  .by_cases hR:ki (o+1) dc rg
   .rw[Mi ⟨hm,hR⟩] at cL;subst cL;rw[Mi hR] at Mw;try refine ga ?_
    refine jf (t:=44) [.int .i64 (o+1),dc,rg] ?_ (hf':=by exact rfl);repeat' first|refine ga ?_|refine al λ_=>?_|refine Pg [.int .i64 (o+1),dc,rg] ?_|refine cq Mw ?_|refine xg [.int .i64 0,.int .i64 0,.int .i64 0] [.int .i64 (o+1),dc,rg] ?_
    exact D.Bg [h] _ rfl (.Va rfl rfl (.tmp rfl .nil)) rfl ⟨rfl,rfl⟩
   .rw[rj λh=>hR h.2] at cL;subst cL;rw[rj hR] at Mw;try refine ga ?_
    refine jf (t:=44) [.int .i64 (o+1),dc,rg] ?_ (hf':=by exact rfl);repeat' first|refine ga ?_|refine al λ_=>?_|refine Pg [.int .i64 (o+1),dc,rg] ?_|refine cq Mw ?_|refine xg [.int .i64 0,.int .i64 0,.int .i64 0] [.int .i64 (o+1),dc,rg] ?_
    refine jf (t:=44) [.int .i64 0,.int .i64 0,.int .i64 0] ?_ (hf':=by exact rfl);repeat' first|refine ga ?_|refine xg [.int .i64 0,.int .i64 0,.int .i64 0] [.int .i64 0,.int .i64 0,.int .i64 0] ?_
    exact D.Bg [h] _ rfl (.Va rfl rfl (.tmp rfl .nil)) rfl ⟨rfl,rfl⟩
  .rw[rj λh=>hm h.1] at cL;subst cL;try refine ga ?_
   refine jf (t:=44) [.int .i64 0,.int .i64 0,.int .i64 0] ?_ (hf':=by exact rfl);repeat' first|refine ga ?_|refine xg [.int .i64 0,.int .i64 0,.int .i64 0] [.int .i64 0,.int .i64 0,.int .i64 0] ?_
   exact D.Bg [h] _ rfl (.Va rfl rfl (.tmp rfl .nil)) rfl ⟨rfl,rfl⟩
end Go.Proofs.YthebagfahkebiaaGreat
