/- Texts of one road. -/
import Derived.Test.YthebagfahkebiaaGreatRows
import Derived.Test.YthebagfahkebiaaGreatQAJ
set_option linter.all false
set_option maxHeartbeats 8000000
set_option maxRecDepth 20000
namespace Go.Proofs.YthebagfahkebiaaGreat
open Go Go.Sl Go.Proofs.Tryz List
def Tryz.own:ownKnob prog.godebug=none:=by kernel_rfl
def Tryz.laidOut:laidOutB prog=true:=by kernel_rfl
variable{k:Nat}
def XQ{c:Ch}(h:c.ms.length<=4){m:Mem}(hk:c.ms[k]? =some m):((c.cfg.enc).drop (0+2+((k:Nat):Int).toNat*2)).take 2=m.enc:=by
 obtain⟨ep,ms,ln⟩:=c;simp only[] at h hk;have hlt:=(List.getElem?_eq_some_iff.1 hk).1
 match ms,h with
 |[],_=>simp at hk
 |[a],_=>
  rcases(by simp at hlt;omega:k=0) with rfl
  cases hk;rfl
 |[a,a2],_=>
  rcases(by simp at hlt;omega:k=0\/k=1) with rfl|rfl<;>cases hk<;>rfl
 |[a,a2,a3],_=>
  rcases(by simp at hlt;omega:k=0\/k=1\/k=2) with rfl|rfl|rfl<;>cases hk<;>rfl
 |[a,a2,a3,a4],_=>
  rcases(by simp at hlt;omega:k=0\/k=1\/k=2\/k=3) with rfl|rfl|rfl|rfl<;>cases hk<;>rfl
def vV{c:Ch}(h:c.ms.length<=4)(h1:c.ms.length<=k)(h2:k<4):((c.cfg.enc).drop (0+2+((k:Nat):Int).toNat*2)).take 2=Mem.z.enc:=by
 obtain⟨ep,ms,ln⟩:=c;simp only[] at h h1
 match ms,h with
 |[],_=>
  rcases(by omega:k=0\/k=1\/k=2\/k=3) with rfl|rfl|rfl|rfl<;>rfl
 |[a],_=>
  rcases(by simp at h1;omega:k=1\/k=2\/k=3) with rfl|rfl|rfl<;>rfl
 |[a,a2],_=>
  rcases(by simp at h1;omega:k=2\/k=3) with rfl|rfl<;>rfl
 |[a,a2,a3],_=>
  rcases(by simp at h1;omega:k=3) with rfl
  rfl
 |[a,a2,a3,a4],_=>simp at h1;omega
def Cw{c:Ch}(ok:xg c):
  Ct prog 141 [.agg (List.toArray c.cfg.enc)] [] (λr H'=>∃h',ia 37 c.all r h'/\H'=[h']):=by
 have h4:=WQ ok;have hn:c.cfg.n=(c.ms.length:Int):=rfl;refine ce func141 λg R=>?_;repeat' first|refine rn ?_|refine Ud λ_=>?_
 rename_i b;refine W.Ke ?_;refine W.lo (α:=Nat×Value×Hp) (λx=>x.1<=c.ms.length/\ia 37 (c.ms.take x.1) x.2.1 x.2.2) (λx=>[(1,b),(3,x.2.1),(4,.int .i64 (x.1:Int))]) (λx=>[x.2.2,Mc b c.cfg,R]) (λx=>c.ms.length - x.1) (0,.slice none 0 0,[]) ⟨Gi _,ia.nil _⟩ ?_;rintro⟨k,v,h⟩ ⟨hk,hs⟩;simp only[] at hk hs⊢;by_cases hlt:k<c.ms.length
 .obtain⟨m,hm⟩:=Sh hlt;have zj:=XQ h4 hm;have htl:(c.ms.take k).length<=4:=by rw[Fe];omega
  repeat' first|refine run ?_|refine WX.Fa rfl zj rfl rfl ?_
  refine Kp [m] (λv2 h2 Oa=>?_);refine Ys (zb:=by simp only[Gb,jd];omega) hs Oa.rs (λv3 h3 Fc=>?_);rw[show c.ms.take k++[m]=c.ms.take (k+1) by rw[take_add_one,hm];rfl] at Fc;try refine run ?_
  exact D.rd (k+1,v3,h3) ⟨by simp only[];omega,Fc⟩ (by simp only[];omega)
 .obtain rfl:k=c.ms.length:=by omega
  rw[take_length] at hs
  cases hl:c.ln with
  |none=>
   have hj:c.cfg.jo=false:=by show c.ln.isSome=false;rw[hl];rfl
   try refine run ?_
   rw[hj];try refine run ?_
   exact Wa [h] rfl rfl ⟨h,by simpa[Ch.all,hl] using hs,rfl⟩
  |some m=>
   have hj:c.cfg.jo=true:=by show c.ln.isSome=true;rw[hl];rfl
   have hle:c.cfg.le=m:=by show c.ln.getD Mem.z=m;rw[hl];rfl
   try refine run ?_
   rw[hj];try refine run ?_
   refine Kp [c.cfg.le] (λv2 h2 Oa=>?_);rw[hle] at Oa;refine Ys (zb:=by simp only[Gb,jd];omega) hs Oa.rs (λv3 h3 Fc=>?_);try refine run ?_
   exact Wa [h3] rfl rfl ⟨h3,by simpa[Ch.all,hl] using Fc,rfl⟩
def HO{c:Ch}(ok:xg c){i:Nat}{x y:Mem}(hk:k<i)(hx:c.all[k]? =some x)(hy:c.all[i]? =some y): ¬x.nd=y.nd:=by
 have h:=CR ok hy;rw[any_eq_false] at h;have:=h x (mem_of_getElem? (i:=k) (by rw[List.getElem?_take,if_pos hk];exact hx));simpa using this
def Uu{c:Ch}(ok:xg c):Ct prog 214 [.agg (List.toArray c.cfg.enc)] [] (λr H'=>r= .bool true/\H'=[]):=by
 have h4:=WQ ok;have TQ:=Cw ok;have YW:1<=c.cfg.ep:=ok.e1;have F1:c.cfg.ep<=1099511627776:=ok.e2;have yc:1<=c.cfg.n:=by have:=ok.l1;show(1:Int)<=(c.ms.length:Int);omega
 have LX:c.cfg.n<=4:=by show(c.ms.length:Int)<=4;omega
 have hn:c.cfg.n=(c.ms.length:Int):=rfl;have hall:c.all.length<=4:=by have:=ok.l4;unfold Ch.all;rw[Cb];exact this
 refine ce func214 λg R=>?_;repeat' first|refine rn ?_|refine Ud λ_=>?_
 rename_i b;refine ck TQ ?_;rintro v _ ⟨h,hs,rfl⟩;have hr:=hs.rs;obtain⟨vp,vc,rfl⟩:=hr.len;refine rn ?_;refine W.lo (α:=Nat) (λk=>k<=c.all.length) (λk=>[(1,b),(3,.slice vp c.all.length vc),(4,.int .i64 (k:Int))]) (λ_=>[h,Mc b c.cfg,R]) (λk=>c.all.length - k) 0 (Gi _) ?_;intro i hi;by_cases hlt:i<c.all.length
 .obtain⟨m,hm⟩:=Sh hlt;have Tq:=ok.rg m (mem_of_getElem? hm);have Tq:0<=m.nd/\m.nd<4/\1<=m.sn/\m.sn<=c.cfg.ep:=Tq;try refine run ?_
  refine wr ?_;refine W.lo (α:=Nat) (λk=>k<=i) (λk=>[(1,b),(3,.slice vp c.all.length vc),(4,.int .i64 (i:Int)),(5,.int .i64 (k:Int))]) (λ_=>[h,Mc b c.cfg,R]) (λk=>i - k) 0 (Gi _) ?_;intro k hk;by_cases hlk:k<i
  .obtain⟨x,hx⟩:∃x,c.all[k]? =some x:=⟨_,oh (by omega)⟩;have hne:=HO ok hlk hx hm;try refine run ?_
   refine wr ?_;exact D.re (k+1)
  .obtain rfl:k=i:=by omega
   try refine run ?_
   exact D.re (k+1)
 .obtain rfl:i=c.all.length:=by omega
  try refine run ?_
  refine W.lo (α:=Nat) (λk=>c.ms.length<=k/\k<=4) (λk=>[(1,b),(6,.int .i64 (k:Int))]) (λ_=>[Mc b c.cfg,R]) (λk=>4 - k) c.ms.length ⟨Nat.le_refl _,h4⟩ ?_;rintro k ⟨hk,yU⟩;by_cases hlk:k<4
  .have hz:=vV h4 hk hlk;repeat' first|refine run ?_|refine WX.Fa rfl hz rfl rfl ?_|refine WX.xl (b:=true) rfl rfl rfl rfl ?_
   exact D.rd (k+1) ⟨by omega,by omega⟩ (by omega)
  .cases hl:c.ln with
   |none=>
    have hj:c.cfg.jo=false:=by show c.ln.isSome=false;rw[hl];rfl
    have hle:c.cfg.le=Mem.z:=by show c.ln.getD Mem.z=Mem.z;rw[hl];rfl
    try refine run ?_
    rw[hj];repeat' first|refine run ?_|(refine I.bin ?_;refine WX.Vu (b:=true) (xs:=Mem.enc c.cfg.le) rfl rfl (by rw[hle];rfl) rfl ?_)
    exact vj []
   |some m=>
    have hj:c.cfg.jo=true:=by show c.ln.isSome=true;rw[hl];rfl
    try refine run ?_
    rw[hj];try refine run ?_
    exact vj []
def iO{c:Ch}(ok:xg c)(k:Int):Ct prog 140 [.agg (List.toArray c.cfg.enc),k] [] (λr H'=>r= .int .i64 (qG c.all k)/\H'=[]):=by
 have hall:c.all.length<=4:=by have:=ok.l4;unfold Ch.all;rw[Cb];exact this
 have hrc:=Uu ok;have TQ:=Cw ok;refine ce func140 λg R=>?_;repeat' first|refine rn ?_|refine Ud λ_=>?_|refine cq hrc ?_
 rename_i b;refine ck TQ ?_;rintro v _ ⟨h,hs,rfl⟩;have hr:=hs.rs;obtain⟨vp,vc,rfl⟩:=hr.len;refine rn ?_;refine W.lo (α:=Nat) (λj=>j<=c.all.length/\∀i p,i<j->c.all[i]? =some p-> ¬p.nd=k) (λj=>[(1,k),(5,.slice vp c.all.length vc),(6,.int .i64 (j:Int))]) (λ_=>[h,R]) (λj=>c.all.length - j) 0 ⟨Gi _,λi p hi=>absurd hi (Nat.not_lt_zero _)⟩ ?_;rintro j ⟨hj,hno⟩;by_cases hlt:j<c.all.length
 .obtain⟨p,hp⟩:=Sh hlt;by_cases hpk:p.nd=k
  .have hres:=DR hp hpk hno;try refine run ?_
   exact Wa [] rfl rfl ⟨by rw[hres],rfl⟩
  .try refine run ?_
   refine D.rd (j+1) ⟨by omega,λi q hi hq=>?_⟩ (by omega);rcases Nat.lt_or_ge i j with h|h
   .exact hno i q h hq
   .obtain rfl:i=j:=by omega
    rw[hp] at hq;cases hq;exact hpk
 .have hres:qG c.all k= -1:=ER (λx hx=>by
   obtain⟨i,hi⟩:=mem_iff_getElem?.1 hx;have hlt:=(List.getElem?_eq_some_iff.1 hi).1;exact hno i x (by omega) hi)
  try refine run ?_
  exact Wa [] rfl rfl ⟨by rw[hres],rfl⟩
variable{es:List ya}
def nk(dc rg sq:Int):Ct prog 242 [.agg (List.toArray [dc,rg,sq])] [] (λr H'=>r= .bool (decide (Qb dc rg))/\H'=[]):=by
 refine ce func242 λg R=>?_;simp only[can];by_cases h0:0<=dc
 .by_cases h1:dc<3
  .by_cases h2:0<=rg
   .repeat' first|refine run ?_|refine Ud λ_=>?_
    exact Wa [] rfl rfl ⟨by simp[h0,h1,h2],rfl⟩
   .repeat' first|refine run ?_|refine Ud λ_=>?_
    exact Wa [] rfl rfl ⟨by simp[h0,h1,h2],rfl⟩
  .repeat' first|refine run ?_|refine Ud λ_=>?_
   exact Wa [] rfl rfl ⟨by simp[h0,h1],rfl⟩
 .repeat' first|refine run ?_|refine Ud λ_=>?_
  exact Wa [] rfl rfl ⟨by simp[h0],rfl⟩
def Iy(ct dc rg:Int):Ct prog 249 [.agg (List.toArray [ct,dc,rg])] [] (λr H'=>r= .bool (decide (Xh ct dc rg))/\H'=[]):=by
 refine ce func249 λg R=>?_;simp only[can];by_cases h0:1<=ct
 .by_cases h1:ct<=1099511627776
  .by_cases h2:0<=dc
   .by_cases h3:dc<3
    .by_cases h4:0<=rg
     .repeat' first|refine run ?_|refine Ud λ_=>?_
      exact Wa [] rfl rfl ⟨by simp[h0,h1,h2,h3,h4],rfl⟩
     .repeat' first|refine run ?_|refine Ud λ_=>?_
      exact Wa [] rfl rfl ⟨by simp[h0,h1,h2,h3,h4],rfl⟩
    .repeat' first|refine run ?_|refine Ud λ_=>?_
     exact Wa [] rfl rfl ⟨by simp[h0,h1,h2,h3],rfl⟩
   .repeat' first|refine run ?_|refine Ud λ_=>?_
    exact Wa [] rfl rfl ⟨by simp[h0,h1,h2],rfl⟩
  .repeat' first|refine run ?_|refine Ud λ_=>?_
   exact Wa [] rfl rfl ⟨by simp[h0,h1],rfl⟩
 .repeat' first|refine run ?_|refine Ud λ_=>?_
  exact Wa [] rfl rfl ⟨by simp[h0],rfl⟩
def NK(v:V9):Ct prog 250 [.agg (List.toArray v.enc)] [] (λr H'=>r= .bool (decide (Ri v))/\H'=[]):=by
 refine ce func250 λg R=>?_;repeat' first|refine rn ?_|refine bx rfl λ_=>?_
 rename_i b;refine W.hp (H':=[Na b v,R]) rfl ?_;refine W.lo (α:=Nat) (λd=>d<=3/\∀i,i<3*d->0<=v.at i/\v.at i<=MC) (λd=>[(1,.pointer (some ⟨b,0,none⟩)),(3,.int .i64 (d:Int))]) (λ_=>[Na b v,R]) (λd=>3 - d) 0 ⟨Nat.zero_le _,λi hi=>absurd hi (Nat.not_lt_zero _)⟩ ?_;rintro d ⟨hd,hall⟩;by_cases hlt:d<3
 .try refine run ?_
  refine W.lo (α:=Nat) (λr=>r<=3/\∀i,i<3*d+r->0<=v.at i/\v.at i<=MC) (λr=>[(1,.pointer (some ⟨b,0,none⟩)),(3,.int .i64 (d:Int)),(4,.int .i64 (r:Int))]) (λ_=>[Na b v,R]) (λr=>3 - r) 0 ⟨Nat.zero_le _,hall⟩ ?_;rintro r ⟨hr,VH⟩;by_cases hlr:r<3
  .have hk:3*d+r<9:=by omega
   generalize hx:v.at (3*d+r)=x;have g1:v.enc[0+((d:Nat):Int).toNat*3+((r:Nat):Int).toNat*1]? =some (.int .i64 x):=by rw[show 0+((d:Nat):Int).toNat*3+((r:Nat):Int).toNat*1=3*d+r by show 0+d*3+r*1=_;omega,V9.Vd _ hk,hx]
   by_cases hg:0<=x/\x<=1099511627776
   .obtain⟨m1,m2⟩:=hg;repeat' first|refine run ?_|refine lN v.enc _ rfl ?_ (hc:=g1)
    refine D.rd (r+1) ⟨by omega,λi hi=>?_⟩ (by omega);rcases Nat.lt_or_ge i (3*d+r) with h|h
    .exact VH i h
    .obtain rfl:i=3*d+r:=by omega
     rw[hx];exact⟨m1,m2⟩
   .have hno: ¬Ri v:=λh=>hg (by have:=h (3*d+r) (by omega);rw[hx] at this;exact this);by_cases m1:x<0
    .repeat' first|refine run ?_|refine lN v.enc _ rfl ?_ (hc:=g1)
     exact Wa [] rfl rfl ⟨by rw[decide_eq_false hno],rfl⟩
    .have m2:1099511627776<x:=by omega
     repeat' first|refine run ?_|refine lN v.enc _ rfl ?_ (hc:=g1)
     exact Wa [] rfl rfl ⟨by rw[decide_eq_false hno],rfl⟩
  .obtain rfl:r=3:=by omega
   try refine run ?_
   exact D.rd (d+1) ⟨by omega,λi hi=>VH i (by omega)⟩ (by omega)
 .obtain rfl:d=3:=by omega
  try refine run ?_
  exact Wa [] rfl rfl ⟨by rw[decide_eq_true (show Ri v from hall)],rfl⟩
abbrev MX(b:Nat)(dc rg sq:Int):Hp:=[(b,.cells (List.toArray [dc,rg,sq]) 42 (0,0))]
def gO(v:V9)(dc rg sq:Int):Ct prog 319 [.agg (List.toArray v.enc),.agg (List.toArray [dc,rg,sq])] [] (λr H'=>r= .agg (List.toArray (zg v dc rg sq).enc)/\H'=[]):=by
 have hch:=nk dc rg sq;refine ce func319 λg R=>?_;simp only[can];by_cases hD:Qb dc rg
 .rw[Fi hD] at hch;rw[show zg v dc rg sq=_ from if_pos hD];obtain⟨c1,c2,c3,c4⟩:=hD;have hk:dc.toNat*3+rg.toNat<9:=by omega
  have e0:0+dc.toNat*3+rg.toNat*1=dc.toNat*3+rg.toNat:=by omega
  have g1:v.enc[0+dc.toNat*3+rg.toNat*1]? =some (.int .i64 (v.at (dc.toNat*3+rg.toNat))):=by rw[e0,V9.Vd _ hk]
  generalize hw:v.put (dc.toNat*3+rg.toNat) (mx (v.at (dc.toNat*3+rg.toNat)) sq)=o;have g3:v.enc.set (0+dc.toNat*3+rg.toNat*1) (.int .i64 (mx (v.at (dc.toNat*3+rg.toNat)) sq))=o.enc:=by rw[e0,V9.jj _ hk,hw]
  have g4:Nat.blt (0+dc.toNat*3+rg.toNat*1) v.enc.length=true:=Nat.ble_eq_true_of_le (by rw[e0];show dc.toNat*3+rg.toNat+1<=9;omega);repeat' first|refine run ?_|refine Ud λ_=>?_|refine al λ_=>?_|refine cq hch ?_
  rename_i b2 b3 b4;refine W.h0 [Na b4 V9.z,MX b3 dc rg sq,Na b2 v,R] ?_;refine sK (ml [16]) [MX b3 dc rg sq,Na b2 v] ?_;repeat' first|refine run ?_|refine lN v.enc _ rfl ?_ (hc:=g1)
  refine Wh v.enc o.enc ?_ (e:=g3) (hb:=g4);try refine run ?_
  exact D.Dc [] _ rfl (.Ua rfl rfl .nil) ⟨rfl,rfl⟩
 .rw[gj hD] at hch;rw[show zg v dc rg sq=_ from if_neg hD];repeat' first|refine run ?_|refine Ud λ_=>?_|refine al λ_=>?_|refine cq hch ?_
  exact D.Dc [] _ rfl (.Ua rfl rfl .nil) ⟨rfl,rfl⟩
def j6(i j:Int):Int:=mx (mx 0 i) j
def Jq(a b:V9)(k:Nat):V9:=V9.BM λi=>if i<k then j6 (a.at i) (b.at i) else 0
def FE(a b:V9):V9:=Jq a b 9
def NX(a b:V9):Jq a b 0=V9.z:=by unfold Jq;exact(V9.Ym λi _=>if_neg (Nat.not_lt_zero _)).trans rfl
def OQ(a b:V9){k:Nat}(h:k<9):(Jq a b k).put k (j6 (a.at k) (b.at k))=Jq a b (k+1):=by
 unfold V9.put;show V9.BM _=V9.BM _;refine V9.Ym λi hi=>?_;unfold Y0 Jq;by_cases e:i=k
 .subst e;rw[if_pos rfl,if_pos (by omega)]
 .rw[if_neg e,V9.Pu _ hi];by_cases h2:i<k
  .rw[if_pos h2,if_pos (by omega)]
  .rw[if_neg h2,if_neg (by omega)]
def DM(a b:V9):Ct prog 283 [.agg (List.toArray a.enc),.agg (List.toArray b.enc)] [] (λr H'=>r= .agg (List.toArray (FE a b).enc)/\H'=[]):=by
 refine ce func283 λg R=>?_;repeat' first|refine rn ?_|refine Ud λ_=>?_|refine al λ_=>?_
 rename_i b2 b3 b4 b5;refine W.hp (H':=[Na b5 (Jq a b (3*0)),Na b4 V9.z,Na b3 b,Na b2 a,R]) (by rw[NX];rfl) ?_;refine W.lo (α:=Nat) (λd=>d<=3) (λd=>[(2,b2),(3,b3),(4,b4),(5,b5),(6,.int .i64 (d:Int))]) (λd=>[Na b5 (Jq a b (3*d)),Na b4 V9.z,Na b3 b,Na b2 a,R]) (λd=>3 - d) 0 (Gi _) ?_;intro d hd;by_cases hld:d<3
 .try refine run ?_
  refine W.lo (α:=Nat) (λr=>r<=3) (λr=>[(2,b2),(3,b3),(4,b4),(5,b5),(6,.int .i64 (d:Int)),(7,.int .i64 (r:Int))]) (λr=>[Na b5 (Jq a b (3*d+r)),Na b4 V9.z,Na b3 b,Na b2 a,R]) (λr=>3 - r) 0 (Gi _) ?_;intro r hr;by_cases hlr:r<3
  .have hk:3*d+r<9:=by omega
   have e0:0+((d:Nat):Int).toNat*3+((r:Nat):Int).toNat*1=3*d+r:=by show 0+d*3+r*1=_;omega
   have g1:a.enc[0+((d:Nat):Int).toNat*3+((r:Nat):Int).toNat*1]? =some (.int .i64 (a.at (3*d+r))):=by rw[e0,V9.Vd _ hk]
   have g2:b.enc[0+((d:Nat):Int).toNat*3+((r:Nat):Int).toNat*1]? =some (.int .i64 (b.at (3*d+r))):=by rw[e0,V9.Vd _ hk]
   have g3:(Jq a b (3*d+r)).enc.set (0+((d:Nat):Int).toNat*3+((r:Nat):Int).toNat*1) (.int .i64 (j6 (a.at (3*d+r)) (b.at (3*d+r))))=(Jq a b (3*d+(r+1))).enc:=by rw[e0,V9.jj _ hk,OQ _ _ hk];rfl
   have g4:Nat.blt (0+((d:Nat):Int).toNat*3+((r:Nat):Int).toNat*1) (Jq a b (3*d+r)).enc.length=true:=Nat.ble_eq_true_of_le (by rw[e0];show 3*d+r+1<=9;omega);try refine run ?_
   refine sK (ml [15]) [Na b3 b,Na b2 a] ?_;repeat' first|refine run ?_|refine lN a.enc _ rfl ?_ (hc:=g1)|refine lN b.enc _ rfl ?_ (hc:=g2)|refine WX.KQ rfl rfl rfl rfl ?_
   refine Wh (Jq a b (3*d+r)).enc (Jq a b (3*d+(r+1))).enc ?_ (e:=g3) (hb:=g4);try refine run ?_
   exact D.re (r+1)
  .obtain rfl:r=3:=by omega
   try refine run ?_
   exact D.re (d+1)
 .obtain rfl:d=3:=by omega
  rw[show Jq a b (3*3)=FE a b from rfl];generalize FE a b=o;try refine run ?_
  exact D.Dc [] _ rfl (.Ua rfl rfl .nil) ⟨rfl,rfl⟩
def jh(es:List ya):V9:=es.foldl (λo e=>zg (FE o e.dp) e.dc e.rg e.sq) V9.z
def aI{i:Nat}{x:ya}(h:es[i]? =some x):jh (es.take (i+1))=zg (FE (jh (es.take i)) x.dp) x.dc x.rg x.sq:=by
 unfold jh;rw[take_add_one,h,foldl_append];rfl
def RQ{u:Value}{h:Hp}(hs:Rs es u h)(hl:es.length<=1000000):
  Ct prog 284 [u] [h] (λr H'=>r= .agg (List.toArray (jh es).enc)/\H'=[h]):=by
 obtain⟨up,uc,rfl⟩:=hs.len;refine ce func284 λg R=>?_;repeat' first|refine vb ?_|refine al λ_=>?_
 rename_i b2 b3;refine W.h0 [Na b3 (jh (es.take 0)),Na b2 V9.z,h,R] ?_;refine W.lo (α:=Nat) (λi=>i<=es.length) (λi=>[(0,.slice up es.length uc),(2,b2),(3,b3),(4,.int .i64 (i:Int))]) (λi=>[Na b3 (jh (es.take i)),Na b2 V9.z,h,R]) (λi=>es.length - i) 0 (Gi _) ?_;intro i hi;by_cases hlt:i<es.length
 .obtain⟨x,hx⟩:=Sh hlt;have Le:=aI hx;generalize jh (es.take i)=o at Le⊢;have ht:=DM o x.dp;have hw:=gO (FE o x.dp) x.dc x.rg x.sq;rw[<-Le] at hw;try refine ga ?_
  refine sK (ml [6,1,5,1]) [Na b3 o,h] ?_;repeat' first|refine ga ?_|refine yj o.enc ?_|refine WX.Wn (t:=47) (us:=x.dp.enc) rfl hs hx rfl rfl rfl rfl ?_|refine WX.Wn (t:=42) (us:=[x.dc,x.rg,x.sq]) rfl hs hx rfl rfl rfl rfl ?_|refine cq ht ?_|refine cq hw ?_|refine nh o.enc (jh (es.take (i+1))).enc ?_
  exact D.re (i+1)
 .obtain rfl:i=es.length:=by omega
  rw[take_length];generalize jh es=o;repeat' first|refine ga ?_|refine yj o.enc ?_|refine nh V9.z.enc o.enc ?_
  exact D.Dc [h] _ rfl (.Ua rfl rfl .nil) ⟨rfl,rfl⟩
variable{u:Value}{h:Hp}
def yt(v:V9)(rg:Int):
  Ct prog 240 [.agg (List.toArray v.enc),rg] [] (λr H'=>r= .agg (List.toArray (ug v rg).enc)/\H'=[]):=by
 refine ce func240 λg R=>?_;repeat' first|refine vb ?_|refine Ud λ_=>?_|refine al λ_=>?_
 rename_i b2 b4 b5;by_cases Tq:0<=rg/\rg<3
 .obtain⟨r1,r2⟩:=Tq;rw[show ug v rg=ig v rg.toNat 3 by unfold ug;rw[if_pos ⟨r1,r2⟩];simp[ig]];refine W.h0 [Ac b5 (ig v rg.toNat 0),Ac b4 V3.z,Na b2 v,R] ?_;refine W.lo (α:=Nat) (λk=>k<=3) (λk=>[(1,rg),(2,b2),(4,b4),(5,b5),(6,.int .i64 (k:Int))]) (λk=>[Ac b5 (ig v rg.toNat k),Ac b4 V3.z,Na b2 v,R]) (λk=>3 - k) 0 (Gi _) ?_;intro k hk;by_cases hlt:k<3
  .have hb:3*k+rg.toNat<9:=by omega
   have g1:v.enc[0+((k:Nat):Int).toNat*3+rg.toNat*1]? =some (.int .i64 (v.at (3*k+rg.toNat))):=by rw[show 0+((k:Nat):Int).toNat*3+rg.toNat*1=3*k+rg.toNat by show 0+k*3+rg.toNat*1=_;omega,V9.Vd _ hb]
   have g3:(ig v rg.toNat k).enc.set (0+((k:Nat):Int).toNat*1) (.int .i64 (v.at (3*k+rg.toNat)))=(ig v rg.toNat (k+1)).enc:=by rw[show 0+((k:Nat):Int).toNat*1=k by show 0+k*1=k;omega,V3.jj _ hlt,dF _ _ hlt]
   have g4:Nat.blt (0+((k:Nat):Int).toNat*1) (ig v rg.toNat k).enc.length=true:=Nat.ble_eq_true_of_le (by show 0+k*1+1<=3;omega);repeat' first|refine ga ?_|refine lN v.enc _ rfl ?_ (hc:=g1)
   refine Wh (ig v rg.toNat k).enc (ig v rg.toNat (k+1)).enc ?_ (e:=g3) (hb:=g4);try refine ga ?_
   exact D.re (k+1)
  .obtain rfl:k=3:=by omega
   generalize ig v rg.toNat 3=o;repeat' first|refine ga ?_|refine yj o.enc ?_|refine nh V3.z.enc o.enc ?_
   exact D.Dc [] _ rfl (.Ua rfl rfl .nil) ⟨rfl,rfl⟩
 .rw[show ug v rg=V3.z from if_neg Tq];refine W.h0 [Ac b5 V3.z,Ac b4 V3.z,Na b2 v,R] ?_;by_cases h0:rg<0
  .refine W.lo (α:=Nat) (λk=>k<=0) (λk=>[(1,rg),(2,b2),(4,b4),(5,b5),(6,.int .i64 (k:Int))]) (λk=>[Ac b5 V3.z,Ac b4 V3.z,Na b2 v,R]) (λk=>3 - k) 0 (Gi _) ?_;intro k hk;obtain rfl:k=0:=by omega
   repeat' first|refine ga ?_|refine yj V3.z.enc ?_|refine nh V3.z.enc V3.z.enc ?_
   exact D.Dc [] _ rfl (.Ua rfl rfl .nil) ⟨rfl,rfl⟩
  .have h3:3<=rg:=by omega
   refine W.lo (α:=Nat) (λk=>k<=0) (λk=>[(1,rg),(2,b2),(4,b4),(5,b5),(6,.int .i64 (k:Int))]) (λk=>[Ac b5 V3.z,Ac b4 V3.z,Na b2 v,R]) (λk=>3 - k) 0 (Gi _) ?_;intro k hk;obtain rfl:k=0:=by omega
   repeat' first|refine ga ?_|refine yj V3.z.enc ?_|refine nh V3.z.enc V3.z.enc ?_
   exact D.Dc [] _ rfl (.Ua rfl rfl .nil) ⟨rfl,rfl⟩
def Pp(a b:V3):
  Ct prog 241 [.agg (List.toArray a.enc),.agg (List.toArray b.enc)] [] (λr H'=>r= .bool (decide (jt a b))/\H'=[]):=by
 refine ce func241 λg R=>?_;simp only[can];by_cases h0:b.a<=a.a
 .by_cases h1:b.b<=a.b
  .repeat' first|refine run ?_|refine Ud λ_=>?_
   exact Wa [] rfl rfl ⟨by simp[h0,h1],rfl⟩
  .repeat' first|refine run ?_|refine Ud λ_=>?_
   exact Wa [] rfl rfl ⟨by simp[h0,h1],rfl⟩
 .repeat' first|refine run ?_|refine Ud λ_=>?_
  exact Wa [] rfl rfl ⟨by simp[h0],rfl⟩
def Xn(rg:Int){es:List ya}(hs:Rs es u h)(hl:es.length<=1000000):
  Ct prog 196 [rg,u] [h] (λr H'=>r= .agg (List.toArray (ic rg es).enc)/\H'=[h]):=by
 obtain⟨up,uc,rfl⟩:=hs.len;refine ce func196 λg R=>?_;repeat' first|refine vb ?_|refine al λ_=>?_
 rename_i b4 b5;refine W.h0 [Ac b5 (ic rg (es.take 0)),Ac b4 V3.z,h,R] ?_;refine W.lo (α:=Nat) (λi=>i<=es.length) (λi=>[(0,rg),(1,.slice up es.length uc),(4,b4),(5,b5),(6,.int .i64 (i:Int))]) (λi=>[Ac b5 (ic rg (es.take i)),Ac b4 V3.z,h,R]) (λi=>es.length - i) 0 (Gi _) ?_;intro i hi;by_cases hlt:i<es.length
 .obtain⟨x,hx⟩:=Sh hlt;have Le:=eF (rg:=rg) hx;generalize ic rg (es.take i)=o at Le⊢;have hch:=nk x.dc x.rg x.sq;by_cases hg:x.rg=rg
  .by_cases hD:Qb x.dc x.rg
   .rw[Fi hD] at hch;rw[show Ze rg o x=_ from if_pos ⟨hg,hg▸hD⟩] at Le;obtain⟨c1,c2,c3,c4⟩:=hD;have hk:x.dc.toNat<3:=by omega
    have g1:o.enc[0+x.dc.toNat*1]? =some (.int .i64 (o.at x.dc.toNat)):=by rw[show 0+x.dc.toNat*1=x.dc.toNat by omega,V3.Vd _ hk]
    have g3:o.enc.set (0+x.dc.toNat*1) (.int .i64 (mx (o.at x.dc.toNat) x.sq))=(ic rg (es.take (i+1))).enc:=by rw[show 0+x.dc.toNat*1=x.dc.toNat by omega,V3.jj _ hk,Le]
    have g4:Nat.blt (0+x.dc.toNat*1) o.enc.length=true:=Nat.ble_eq_true_of_le (by show 0+x.dc.toNat*1+1<=3;omega);repeat' first|refine ga ?_|refine al λ_=>?_|refine WX.Wn (t:=42) (us:=[x.dc,x.rg,x.sq]) rfl hs hx rfl rfl rfl rfl ?_|refine Of (t:=42) [x.dc,x.rg,x.sq] [x.dc,x.rg,x.sq] ?_|refine nh [.int .i64 0,.int .i64 0,.int .i64 0] [x.dc,x.rg,x.sq] ?_|refine cq hch ?_
    rename_i b7;refine sK (ml [9]) [MX b7 x.dc x.rg x.sq,Ac b5 o] ?_;repeat' first|refine ga ?_|refine lN o.enc _ rfl ?_ (hc:=g1)
    refine Wh o.enc (ic rg (es.take (i+1))).enc ?_ (e:=g3) (hb:=g4);try refine ga ?_
    exact D.re (i+1)
   .rw[gj hD] at hch;rw[show Ze rg o x=_ from if_neg λh=>hD (hg▸h.2)] at Le;repeat' first|refine ga ?_|refine al λ_=>?_|refine WX.Wn (t:=42) (us:=[x.dc,x.rg,x.sq]) rfl hs hx rfl rfl rfl rfl ?_|refine Of (t:=42) [x.dc,x.rg,x.sq] [x.dc,x.rg,x.sq] ?_|refine nh [.int .i64 0,.int .i64 0,.int .i64 0] [x.dc,x.rg,x.sq] ?_|refine cq hch ?_
    rw[<-Le];exact D.re (i+1)
  .rw[show Ze rg o x=_ from if_neg λh=>hg h.1] at Le;repeat' first|refine ga ?_|refine al λ_=>?_|refine WX.Wn (t:=42) (us:=[x.dc,x.rg,x.sq]) rfl hs hx rfl rfl rfl rfl ?_|refine nh [.int .i64 0,.int .i64 0,.int .i64 0] [x.dc,x.rg,x.sq] ?_
   rw[<-Le];exact D.re (i+1)
 .obtain rfl:i=es.length:=by omega
  rw[take_length];generalize ic rg es=o;repeat' first|refine ga ?_|refine yj o.enc ?_|refine nh V3.z.enc o.enc ?_
  exact D.Dc [h] _ rfl (.Ua rfl rfl .nil) ⟨rfl,rfl⟩
def Lj(dc rg:Int)(xs:List Int):Bool:=decide (He xs<MC/\Xh (He xs+1) dc rg)
def SQ(dc rg:Int){xs:List Int}(hs:Rs xs u h)(hl:xs.length<=1000000):
  Ct prog 282 [dc,rg,u] [h] (λr H'=>r= .tuple #[.agg (List.toArray (Un (Lj dc rg xs) (He xs+1) dc rg)),.bool (Lj dc rg xs)]/\H'=[h]):=by
 have VA:=Dy xs;obtain⟨up,uc,rfl⟩:=hs.len;refine ce func282 λg R=>?_;repeat' first|refine vb ?_|refine al λ_=>?_
 rename_i b6;refine W.lo (α:=Nat) (λi=>i<=xs.length) (λi=>[(0,dc),(1,rg),(2,.slice up xs.length uc),(6,b6),(8,.int .i64 (He (xs.take i))),(9,.int .i64 (i:Int))]) (λi=>[[(b6,.cells (List.toArray [.int .i64 0,.int .i64 0,.int .i64 0]) 44 (0,0))],h,R]) (λi=>xs.length - i) 0 (Gi _) ?_;intro i hi;by_cases hlt:i<xs.length
 .obtain⟨x,hx⟩:=Sh hlt;have Le:=Cy hx;generalize He (xs.take i)=o at Le⊢;try refine run ?_
  refine D.as 8 (.int .i64 (He (xs.take (i+1)))) rfl (by rw[Le];rfl) ?_;exact D.re (i+1)
 .obtain rfl:i=xs.length:=by omega
  rw[take_length];obtain⟨ok,hok⟩:∃b,Lj dc rg xs=b:=⟨_,rfl⟩;have OK:decide (He xs<1099511627776/\Xh (He xs+1) dc rg)=ok:=hok;rw[hok];generalize He xs=o at VA OK⊢;have yw:=Iy (o+1) dc rg;by_cases hm:o<1099511627776
  .by_cases hR:Xh (o+1) dc rg
   .rw[Fi ⟨hm,hR⟩] at OK;subst OK;rw[Fi hR] at yw;try refine ga ?_
    refine Vf (t:=44) [.int .i64 (o+1),dc,rg] ?_ (hf':=by exact rfl);repeat' first|refine ga ?_|refine al λ_=>?_|refine yj [.int .i64 (o+1),dc,rg] ?_|refine cq yw ?_|refine nh [.int .i64 0,.int .i64 0,.int .i64 0] [.int .i64 (o+1),dc,rg] ?_
    exact D.yg [h] _ rfl (.Ua rfl rfl (.tmp rfl .nil)) rfl ⟨rfl,rfl⟩
   .rw[gj λh=>hR h.2] at OK;subst OK;rw[gj hR] at yw;try refine ga ?_
    refine Vf (t:=44) [.int .i64 (o+1),dc,rg] ?_ (hf':=by exact rfl);repeat' first|refine ga ?_|refine al λ_=>?_|refine yj [.int .i64 (o+1),dc,rg] ?_|refine cq yw ?_|refine nh [.int .i64 0,.int .i64 0,.int .i64 0] [.int .i64 (o+1),dc,rg] ?_
    refine Vf (t:=44) [.int .i64 0,.int .i64 0,.int .i64 0] ?_ (hf':=by exact rfl);repeat' first|refine ga ?_|refine nh [.int .i64 0,.int .i64 0,.int .i64 0] [.int .i64 0,.int .i64 0,.int .i64 0] ?_
    exact D.yg [h] _ rfl (.Ua rfl rfl (.tmp rfl .nil)) rfl ⟨rfl,rfl⟩
  .rw[gj λh=>hm h.1] at OK;subst OK;try refine ga ?_
   refine Vf (t:=44) [.int .i64 0,.int .i64 0,.int .i64 0] ?_ (hf':=by exact rfl);repeat' first|refine ga ?_|refine nh [.int .i64 0,.int .i64 0,.int .i64 0] [.int .i64 0,.int .i64 0,.int .i64 0] ?_
   exact D.yg [h] _ rfl (.Ua rfl rfl (.tmp rfl .nil)) rfl ⟨rfl,rfl⟩
end Go.Proofs.YthebagfahkebiaaGreat
