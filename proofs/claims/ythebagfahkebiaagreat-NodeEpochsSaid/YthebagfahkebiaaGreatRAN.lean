/- Texts of one road. -/
import Derived.Test.YthebagfahkebiaaGreatRAK
set_option linter.all false
set_option maxHeartbeats 8000000
set_option maxRecDepth 20000
namespace Go.Proofs.YthebagfahkebiaaGreat
open Go Go.Sl Go.Proofs.Tryz List
def bV{s:CS}(ok:Ob s)(b:Nat){v:Value}{hv:Hp}(hs:ia 49 s.lg v hv)(key val:ByteArray)(dead:Bool)(deps:V9)(clock cl op:Int):
  Ct prog 220 [b,.string key,.string val,.bool dead,.agg (List.toArray deps.enc),clock,cl,op] [ja b s v,hv]
   (λr H'=>r= .tuple #[.int .i64 (s.Zf key val dead deps clock cl op).1.1,.int .i64 (s.Zf key val dead deps clock cl op).1.2]/\Wy (s.Zf key val dead deps clock cl op).2 b H'):=by
 have hr:=hs.rs;have tg:=ok.len;have hlen:s.len=(s.lg.length:Int):=rfl;have hih:=jk ok.co b v;have hfo:=tO s b hr (by omega) cl op;have je:=Sr s b hr (by omega);have ay:=Vy s b hr (by omega) deps;by_cases c1:s.head;rotate_left
 .have e0:s.Zf key val dead deps clock cl op=((0,90),s):=if_pos c1;rw[e0];rw[rj c1] at hih;refine ce func220 λg R=>?_;simp only[can];repeat' first|refine ga ?_|refine Uc λ_=>?_|refine cq hih ?_
  exact D.Vb [ja b s v,hv] _ rfl rfl rfl ⟨rfl,v,hv,rfl,hs⟩
 rw[Mi c1] at hih;by_cases c2:0<Re s.lg cl op
 .have e0:s.Zf key val dead deps clock cl op=((Re s.lg cl op,0),s):=by unfold CS.Zf;rw[if_neg (λh=>h c1),if_pos c2]
  rw[e0];refine ce func220 λg R=>?_;simp only[can];repeat' first|refine ga ?_|refine Uc λ_=>?_|refine cq hih ?_|refine cq hfo ?_
  exact D.Vb [ja b s v,hv] _ rfl rfl rfl ⟨rfl,v,hv,rfl,hs⟩
 by_cases c3:s.Yn deps;rotate_left
 .have e0:s.Zf key val dead deps clock cl op=((0,91),s):=by unfold CS.Zf;rw[if_neg (λh=>h c1),if_neg c2,if_pos c3]
  rw[e0];rw[Mi c3] at ay;by_cases hN:s.Rr clock
  .refine ce func220 λg R=>?_;simp only[can];repeat' first|refine ga ?_|refine Uc λ_=>?_|refine cq hih ?_|refine cq hfo ?_
   rename_i Ph;refine Up [clock] (λv1 h1 hs1=>?_);try refine ga ?_
   refine W.h0 [h1,Ra Ph deps,ja b s v,hv,R] ?_
   refine W.lo (α:=Nat×Value×Hp) (λx=>x.1<=s.lg.length/\ia 3 (clock::(s.lg.take x.1).map (·.ct)) x.2.1 x.2.2) (λx=>[(0,b),(1,.string key),(2,.string val),(3,.bool dead),(6,cl),(7,op),(12,Ph),(19,x.2.1),(41,v),(42,.int .i64 (s.lg.length:Int)),(43,.int .i64 (x.1:Int))])
    (λx=>[x.2.2,Ra Ph deps,ja b s v,hv,R]) (λx=>s.lg.length - x.1) (0,v1,h1) ⟨di _,hs1⟩ ?_
   rintro⟨i,w,hw⟩ ⟨hi,hsw⟩;simp only[] at hi hsw⊢;have Yy:(clock::(s.lg.take i).map (·.ct)).length<=257:=by rw[Ib,bf,Oe];omega
   by_cases hlt:i<s.lg.length
   .obtain⟨x,hx⟩:=Lh hlt;repeat' first|refine ga ?_|refine al λ_=>?_|refine Vx hr hx ?_|refine xg ya.z.enc x.enc ?_
    refine Up [x.ct] (λv2 h2 Sa=>?_);refine Jt (zb:=by simp only[Ib,td] at Yy⊢;omega) hsw Sa.rs (λv3 h3 Cc=>?_);have Cc:ia 3 (clock::(s.lg.take (i+1)).map (·.ct)) v3 h3:=by rw[take_add_one,hx,He];exact Cc
    try refine ga ?_
    exact D.rd (i+1,v3,h3) ⟨by simp only[];omega,Cc⟩ (by simp only[];omega)
   obtain rfl:i=s.lg.length:=by omega
   rw[take_length] at hsw Yy;have Qe:=Cq s.dc s.rg hsw.rs (by omega);clear hsw hs1;try refine ga ?_
   rw[Mi hN] at Qe;refine W.Pt 8 [true,true,true,true,true,true,true,true,true,false,true,true,true,false,false] 13 [ja b s v] Tryz.mix (by kernel_rfl) rfl ?_;repeat' first|refine ga ?_|refine al λ_=>?_|refine cq Qe ?_|refine WA.un ?_|refine WA.lf ?_|refine WA.back ?_|refine WA.an ?_ ?_|refine WA.nil ?_
   all_goals
    rename_i EG;refine WX.h0 [[(EG,.cells (List.toArray [.int .i64 0,.int .i64 0,.int .i64 0]) 44 (0,0))],hw,Ra Ph deps,ja b s v,hv,R] ?_;refine xg [.int .i64 0,.int .i64 0,.int .i64 0] [.int .i64 (Sf (clock::s.lg.map (λ(e:ya)=>e.ct))),s.dc,s.rg] ?_;repeat' first|refine ga ?_|refine Xf (t:=47) deps.enc deps.enc ?_|refine cq ay ?_
    exact D.Vb [ja b s v,hv] _ rfl rfl rfl ⟨rfl,v,hv,rfl,hs⟩
  .refine ce func220 λg R=>?_;simp only[can];repeat' first|refine ga ?_|refine Uc λ_=>?_|refine cq hih ?_|refine cq hfo ?_
   rename_i Ph;refine Up [clock] (λv1 h1 hs1=>?_);try refine ga ?_
   refine W.h0 [h1,Ra Ph deps,ja b s v,hv,R] ?_
   refine W.lo (α:=Nat×Value×Hp) (λx=>x.1<=s.lg.length/\ia 3 (clock::(s.lg.take x.1).map (·.ct)) x.2.1 x.2.2) (λx=>[(0,b),(1,.string key),(2,.string val),(3,.bool dead),(6,cl),(7,op),(12,Ph),(19,x.2.1),(41,v),(42,.int .i64 (s.lg.length:Int)),(43,.int .i64 (x.1:Int))])
    (λx=>[x.2.2,Ra Ph deps,ja b s v,hv,R]) (λx=>s.lg.length - x.1) (0,v1,h1) ⟨di _,hs1⟩ ?_
   rintro⟨i,w,hw⟩ ⟨hi,hsw⟩;simp only[] at hi hsw⊢;have Yy:(clock::(s.lg.take i).map (·.ct)).length<=257:=by rw[Ib,bf,Oe];omega
   by_cases hlt:i<s.lg.length
   .obtain⟨x,hx⟩:=Lh hlt;repeat' first|refine ga ?_|refine al λ_=>?_|refine Vx hr hx ?_|refine xg ya.z.enc x.enc ?_
    refine Up [x.ct] (λv2 h2 Sa=>?_);refine Jt (zb:=by simp only[Ib,td] at Yy⊢;omega) hsw Sa.rs (λv3 h3 Cc=>?_);have Cc:ia 3 (clock::(s.lg.take (i+1)).map (·.ct)) v3 h3:=by rw[take_add_one,hx,He];exact Cc
    try refine ga ?_
    exact D.rd (i+1,v3,h3) ⟨by simp only[];omega,Cc⟩ (by simp only[];omega)
   obtain rfl:i=s.lg.length:=by omega
   rw[take_length] at hsw Yy;have Qe:=Cq s.dc s.rg hsw.rs (by omega);clear hsw hs1;try refine ga ?_
   rw[rj hN] at Qe;refine W.Pt 8 [true,true,true,true,true,true,true,true,true,false,true,true,true,false,false] 13 [ja b s v] Tryz.mix (by kernel_rfl) rfl ?_;repeat' first|refine ga ?_|refine al λ_=>?_|refine cq Qe ?_|refine WA.un ?_|refine WA.lf ?_|refine WA.back ?_|refine WA.an ?_ ?_|refine WA.nil ?_
   all_goals
    rename_i EG;refine WX.h0 [[(EG,.cells (List.toArray [.int .i64 0,.int .i64 0,.int .i64 0]) 44 (0,0))],hw,Ra Ph deps,ja b s v,hv,R] ?_;refine xg [.int .i64 0,.int .i64 0,.int .i64 0] [.int .i64 0,.int .i64 0,.int .i64 0] ?_;repeat' first|refine ga ?_|refine Xf (t:=47) deps.enc deps.enc ?_|refine cq ay ?_
    exact D.Vb [ja b s v,hv] _ rfl rfl rfl ⟨rfl,v,hv,rfl,hs⟩
 rw[rj (λh=>h c3)] at ay;by_cases hN:s.Rr clock;rotate_left
 .have e0:s.Zf key val dead deps clock cl op=((0,2),s):=by unfold CS.Zf;rw[if_neg (λh=>h c1),if_neg c2,if_neg (λh=>h c3),if_pos (.inr hN)]
  rw[e0];refine ce func220 λg R=>?_;simp only[can];repeat' first|refine ga ?_|refine Uc λ_=>?_|refine cq hih ?_|refine cq hfo ?_
  rename_i Ph;refine Up [clock] (λv1 h1 hs1=>?_);try refine ga ?_
  refine W.h0 [h1,Ra Ph deps,ja b s v,hv,R] ?_
  refine W.lo (α:=Nat×Value×Hp) (λx=>x.1<=s.lg.length/\ia 3 (clock::(s.lg.take x.1).map (·.ct)) x.2.1 x.2.2) (λx=>[(0,b),(1,.string key),(2,.string val),(3,.bool dead),(6,cl),(7,op),(12,Ph),(19,x.2.1),(41,v),(42,.int .i64 (s.lg.length:Int)),(43,.int .i64 (x.1:Int))])
   (λx=>[x.2.2,Ra Ph deps,ja b s v,hv,R]) (λx=>s.lg.length - x.1) (0,v1,h1) ⟨di _,hs1⟩ ?_
  rintro⟨i,w,hw⟩ ⟨hi,hsw⟩;simp only[] at hi hsw⊢;have Yy:(clock::(s.lg.take i).map (·.ct)).length<=257:=by rw[Ib,bf,Oe];omega
  by_cases hlt:i<s.lg.length
  .obtain⟨x,hx⟩:=Lh hlt;repeat' first|refine ga ?_|refine al λ_=>?_|refine Vx hr hx ?_|refine xg ya.z.enc x.enc ?_
   refine Up [x.ct] (λv2 h2 Sa=>?_);refine Jt (zb:=by simp only[Ib,td] at Yy⊢;omega) hsw Sa.rs (λv3 h3 Cc=>?_);have Cc:ia 3 (clock::(s.lg.take (i+1)).map (·.ct)) v3 h3:=by rw[take_add_one,hx,He];exact Cc
   try refine ga ?_
   exact D.rd (i+1,v3,h3) ⟨by simp only[];omega,Cc⟩ (by simp only[];omega)
  obtain rfl:i=s.lg.length:=by omega
  rw[take_length] at hsw Yy;have Qe:=Cq s.dc s.rg hsw.rs (by omega);clear hsw hs1;try refine ga ?_
  rw[rj hN] at Qe;refine W.Pt 8 [true,true,true,true,true,true,true,true,true,false,true,true,true,false,false] 13 [ja b s v] Tryz.mix (by kernel_rfl) rfl ?_;repeat' first|refine ga ?_|refine al λ_=>?_|refine cq Qe ?_|refine WA.un ?_|refine WA.lf ?_|refine WA.back ?_|refine WA.an ?_ ?_|refine WA.nil ?_
  all_goals
   by_cases c4:256<=s.len
   .rename_i EG;refine WX.h0 [[(EG,.cells (List.toArray [.int .i64 0,.int .i64 0,.int .i64 0]) 44 (0,0))],hw,Ra Ph deps,ja b s v,hv,R] ?_;refine xg [.int .i64 0,.int .i64 0,.int .i64 0] [.int .i64 0,.int .i64 0,.int .i64 0] ?_;repeat' first|refine ga ?_|refine Xf (t:=47) deps.enc deps.enc ?_|refine cq ay ?_
    exact D.Vb [ja b s v,hv] _ rfl rfl rfl ⟨rfl,v,hv,rfl,hs⟩
   .rename_i EG;refine WX.h0 [[(EG,.cells (List.toArray [.int .i64 0,.int .i64 0,.int .i64 0]) 44 (0,0))],hw,Ra Ph deps,ja b s v,hv,R] ?_;refine xg [.int .i64 0,.int .i64 0,.int .i64 0] [.int .i64 0,.int .i64 0,.int .i64 0] ?_;repeat' first|refine ga ?_|refine Xf (t:=47) deps.enc deps.enc ?_|refine cq ay ?_
    exact D.Vb [ja b s v,hv] _ rfl rfl rfl ⟨rfl,v,hv,rfl,hs⟩
 by_cases c4:256<=s.len
 .have e0:s.Zf key val dead deps clock cl op=((0,2),s):=by unfold CS.Zf;rw[if_neg (λh=>h c1),if_neg c2,if_neg (λh=>h c3),if_pos (.inl c4)]
  rw[e0];refine ce func220 λg R=>?_;simp only[can];repeat' first|refine ga ?_|refine Uc λ_=>?_|refine cq hih ?_|refine cq hfo ?_
  rename_i Ph;refine Up [clock] (λv1 h1 hs1=>?_);try refine ga ?_
  refine W.h0 [h1,Ra Ph deps,ja b s v,hv,R] ?_
  refine W.lo (α:=Nat×Value×Hp) (λx=>x.1<=s.lg.length/\ia 3 (clock::(s.lg.take x.1).map (·.ct)) x.2.1 x.2.2) (λx=>[(0,b),(1,.string key),(2,.string val),(3,.bool dead),(6,cl),(7,op),(12,Ph),(19,x.2.1),(41,v),(42,.int .i64 (s.lg.length:Int)),(43,.int .i64 (x.1:Int))])
   (λx=>[x.2.2,Ra Ph deps,ja b s v,hv,R]) (λx=>s.lg.length - x.1) (0,v1,h1) ⟨di _,hs1⟩ ?_
  rintro⟨i,w,hw⟩ ⟨hi,hsw⟩;simp only[] at hi hsw⊢;have Yy:(clock::(s.lg.take i).map (·.ct)).length<=257:=by rw[Ib,bf,Oe];omega
  by_cases hlt:i<s.lg.length
  .obtain⟨x,hx⟩:=Lh hlt;repeat' first|refine ga ?_|refine al λ_=>?_|refine Vx hr hx ?_|refine xg ya.z.enc x.enc ?_
   refine Up [x.ct] (λv2 h2 Sa=>?_);refine Jt (zb:=by simp only[Ib,td] at Yy⊢;omega) hsw Sa.rs (λv3 h3 Cc=>?_);have Cc:ia 3 (clock::(s.lg.take (i+1)).map (·.ct)) v3 h3:=by rw[take_add_one,hx,He];exact Cc
   try refine ga ?_
   exact D.rd (i+1,v3,h3) ⟨by simp only[];omega,Cc⟩ (by simp only[];omega)
  obtain rfl:i=s.lg.length:=by omega
  rw[take_length] at hsw Yy;have Qe:=Cq s.dc s.rg hsw.rs (by omega);clear hsw hs1;try refine ga ?_
  rw[Mi hN] at Qe;refine W.Pt 8 [true,true,true,true,true,true,true,true,true,false,true,true,true,false,false] 13 [ja b s v] Tryz.mix (by kernel_rfl) rfl ?_;repeat' first|refine ga ?_|refine al λ_=>?_|refine cq Qe ?_|refine WA.un ?_|refine WA.lf ?_|refine WA.back ?_|refine WA.an ?_ ?_|refine WA.nil ?_
  all_goals
   rename_i EG;refine WX.h0 [[(EG,.cells (List.toArray [.int .i64 0,.int .i64 0,.int .i64 0]) 44 (0,0))],hw,Ra Ph deps,ja b s v,hv,R] ?_;refine xg [.int .i64 0,.int .i64 0,.int .i64 0] [.int .i64 (Sf (clock::s.lg.map (λ(e:ya)=>e.ct))),s.dc,s.rg] ?_;repeat' first|refine ga ?_|refine Xf (t:=47) deps.enc deps.enc ?_|refine cq ay ?_
   exact D.Vb [ja b s v,hv] _ rfl rfl rfl ⟨rfl,v,hv,rfl,hs⟩
 have hj:s.dc=(s.dc.toNat:Int):=by have:=hN.2.2.1;omega
 have xO:s.dc.toNat<3:=by have:=hN.2.2.2.1;omega
 have Cj:=(Bc s.rg s.lg).Wd xO;have cB:=Zi s.rg ok.es xO;simp only[MC] at cB;have hpa:=YU hr (by omega);have ji:=Yx (s.entry key val dead deps clock cl op);have OX: ¬(256<=s.len\/ ¬s.Rr clock):=λh=>h.elim c4 (λh=>h hN);by_cases c5:ud (s.entry key val dead deps clock cl op);rotate_left
 .have e0:s.Zf key val dead deps clock cl op=((0,1),s):=by unfold CS.Zf;rw[if_neg (λh=>h c1),if_neg c2,if_neg (λh=>h c3),if_neg OX,if_pos c5]
  rw[e0];rw[rj c5] at ji;refine ce func220 λg R=>?_;simp only[can];repeat' first|refine ga ?_|refine Uc λ_=>?_|refine cq hih ?_|refine cq hfo ?_
  rename_i Ph;refine Up [clock] (λv1 h1 hs1=>?_);try refine ga ?_
  refine W.h0 [h1,Ra Ph deps,ja b s v,hv,R] ?_
  refine W.lo (α:=Nat×Value×Hp) (λx=>x.1<=s.lg.length/\ia 3 (clock::(s.lg.take x.1).map (·.ct)) x.2.1 x.2.2) (λx=>[(0,b),(1,.string key),(2,.string val),(3,.bool dead),(6,cl),(7,op),(12,Ph),(19,x.2.1),(41,v),(42,.int .i64 (s.lg.length:Int)),(43,.int .i64 (x.1:Int))])
   (λx=>[x.2.2,Ra Ph deps,ja b s v,hv,R]) (λx=>s.lg.length - x.1) (0,v1,h1) ⟨di _,hs1⟩ ?_
  rintro⟨i,w,hw⟩ ⟨hi,hsw⟩;simp only[] at hi hsw⊢;have Yy:(clock::(s.lg.take i).map (·.ct)).length<=257:=by rw[Ib,bf,Oe];omega
  by_cases hlt:i<s.lg.length
  .obtain⟨x,hx⟩:=Lh hlt;repeat' first|refine ga ?_|refine al λ_=>?_|refine Vx hr hx ?_|refine xg ya.z.enc x.enc ?_
   refine Up [x.ct] (λv2 h2 Sa=>?_);refine Jt (zb:=by simp only[Ib,td] at Yy⊢;omega) hsw Sa.rs (λv3 h3 Cc=>?_);have Cc:ia 3 (clock::(s.lg.take (i+1)).map (·.ct)) v3 h3:=by rw[take_add_one,hx,He];exact Cc
   try refine ga ?_
   exact D.rd (i+1,v3,h3) ⟨by simp only[];omega,Cc⟩ (by simp only[];omega)
  obtain rfl:i=s.lg.length:=by omega
  rw[take_length] at hsw Yy;have Qe:=Cq s.dc s.rg hsw.rs (by omega);clear hsw hs1;try refine ga ?_
  rw[Mi hN] at Qe;refine W.Pt 8 [true,true,true,true,true,true,true,true,true,false,true,true,true,false,false] 13 [ja b s v] Tryz.mix (by kernel_rfl) rfl ?_;repeat' first|refine ga ?_|refine al λ_=>?_|refine cq Qe ?_|refine WA.un ?_|refine WA.lf ?_|refine WA.back ?_|refine WA.an ?_ ?_|refine WA.nil ?_
  all_goals
   rename_i EG;refine WX.h0 [[(EG,.cells (List.toArray [.int .i64 0,.int .i64 0,.int .i64 0]) 44 (0,0))],hw,Ra Ph deps,ja b s v,hv,R] ?_;refine xg [.int .i64 0,.int .i64 0,.int .i64 0] [.int .i64 (Sf (clock::s.lg.map (λ(e:ya)=>e.ct))),s.dc,s.rg] ?_;repeat' first|refine ga ?_|refine Xf (t:=47) deps.enc deps.enc ?_|refine cq ay ?_
   refine W.h0 [[(EG,.cells (List.toArray [.int .i64 (Sf (clock::s.lg.map (λ(e:ya)=>e.ct))),s.dc,s.rg]) 44 (0,0))],hw,Ra Ph deps,ja b s v,hv,R] ?_;refine wq ?_;repeat' first|refine ga ?_|refine cq je ?_|refine WX.CE rfl rfl hj xO Cj rfl ?_
   refine W.Pt 8 (List.replicate 19 true++[false,false,false,true,true,true,false]) 25 [ja b s v,Ra Ph deps,[(EG,.cells (List.toArray [.int .i64 (Sf (clock::s.lg.map (λ(e:ya)=>e.ct))),s.dc,s.rg]) 44 (0,0))]] Tryz.mix (by kernel_rfl) rfl ?_;repeat' first|refine ga ?_|refine al λ_=>?_|refine Xf (t:=47) deps.enc deps.enc ?_|refine Xf (t:=44) [.int .i64 (Sf (clock::s.lg.map (λ(e:ya)=>e.ct))),s.dc,s.rg] [.int .i64 (Sf (clock::s.lg.map (λ(e:ya)=>e.ct))),s.dc,s.rg] ?_|refine cq hpa ?_|refine cq (Ry Sa.rs (by simp)) ?_|refine Up [deps,Mt s.lg] (λv2 h2 Sa=>?_)|refine jf (t:=42) [s.dc,s.rg,.int .i64 ((Bc s.rg s.lg).at s.dc.toNat+1)] ?_|refine jf (t:=49) (s.entry key val dead deps clock cl op).enc ?_|refine WA.un ?_|refine WA.lf ?_|refine WA.back ?_|refine WA.an ?_ ?_|refine WA.nil ?_
  all_goals
   rename_i b25;refine xg ya.z.enc (s.entry key val dead deps clock cl op).enc ?_;repeat' first|refine ga ?_|refine Xf (t:=49) (s.entry key val dead deps clock cl op).enc (s.entry key val dead deps clock cl op).enc ?_|refine cq ji ?_
   exact D.Vb [ja b s v,hv] _ rfl rfl rfl ⟨rfl,v,hv,rfl,hs⟩
 rw[Mi c5] at ji;have e0:s.Zf key val dead deps clock cl op=((s.len+1,0),(s.push (s.entry key val dead deps clock cl op)).settle):=by unfold CS.Zf;rw[if_neg (λh=>h c1),if_neg c2,if_neg (λh=>h c3),if_neg OX,if_neg (λh=>h c5)]
 rw[e0];have ZA:=λv'=>Ve (s:=s.push (s.entry key val dead deps clock cl op)) ok.co b v';have cg:((s.lg++[s.entry key val dead deps clock cl op]).length:Int)=s.len+1:=by rw[Eb,hlen];rfl
 refine ce func220 λg R=>?_;simp only[can];repeat' first|refine ga ?_|refine Uc λ_=>?_|refine cq hih ?_|refine cq hfo ?_
 rename_i Ph;refine Up [clock] (λv1 h1 hs1=>?_);try refine ga ?_
 refine W.h0 [h1,Ra Ph deps,ja b s v,hv,R] ?_
 refine W.lo (α:=Nat×Value×Hp) (λx=>x.1<=s.lg.length/\ia 3 (clock::(s.lg.take x.1).map (·.ct)) x.2.1 x.2.2) (λx=>[(0,b),(1,.string key),(2,.string val),(3,.bool dead),(6,cl),(7,op),(12,Ph),(19,x.2.1),(41,v),(42,.int .i64 (s.lg.length:Int)),(43,.int .i64 (x.1:Int))])
  (λx=>[x.2.2,Ra Ph deps,ja b s v,hv,R]) (λx=>s.lg.length - x.1) (0,v1,h1) ⟨di _,hs1⟩ ?_
 rintro⟨i,w,hw⟩ ⟨hi,hsw⟩;simp only[] at hi hsw⊢;have Yy:(clock::(s.lg.take i).map (·.ct)).length<=257:=by rw[Ib,bf,Oe];omega
 by_cases hlt:i<s.lg.length
 .obtain⟨x,hx⟩:=Lh hlt;repeat' first|refine ga ?_|refine al λ_=>?_|refine Vx hr hx ?_|refine xg ya.z.enc x.enc ?_
  refine Up [x.ct] (λv2 h2 Sa=>?_);refine Jt (zb:=by simp only[Ib,td] at Yy⊢;omega) hsw Sa.rs (λv3 h3 Cc=>?_);have Cc:ia 3 (clock::(s.lg.take (i+1)).map (·.ct)) v3 h3:=by rw[take_add_one,hx,He];exact Cc
  try refine ga ?_
  exact D.rd (i+1,v3,h3) ⟨by simp only[];omega,Cc⟩ (by simp only[];omega)
 obtain rfl:i=s.lg.length:=by omega
 rw[take_length] at hsw Yy;have Qe:=Cq s.dc s.rg hsw.rs (by omega);clear hsw hs1;try refine ga ?_
 rw[Mi hN] at Qe;refine W.Pt 8 [true,true,true,true,true,true,true,true,true,false,true,true,true,false,false] 13 [ja b s v] Tryz.mix (by kernel_rfl) rfl ?_;repeat' first|refine ga ?_|refine al λ_=>?_|refine cq Qe ?_|refine WA.un ?_|refine WA.lf ?_|refine WA.back ?_|refine WA.an ?_ ?_|refine WA.nil ?_
 all_goals
  rename_i EG;refine WX.h0 [[(EG,.cells (List.toArray [.int .i64 0,.int .i64 0,.int .i64 0]) 44 (0,0))],hw,Ra Ph deps,ja b s v,hv,R] ?_;refine xg [.int .i64 0,.int .i64 0,.int .i64 0] [.int .i64 (Sf (clock::s.lg.map (λ(e:ya)=>e.ct))),s.dc,s.rg] ?_;repeat' first|refine ga ?_|refine Xf (t:=47) deps.enc deps.enc ?_|refine cq ay ?_
  refine W.h0 [[(EG,.cells (List.toArray [.int .i64 (Sf (clock::s.lg.map (λ(e:ya)=>e.ct))),s.dc,s.rg]) 44 (0,0))],hw,Ra Ph deps,ja b s v,hv,R] ?_;refine wq ?_;repeat' first|refine ga ?_|refine cq je ?_|refine WX.CE rfl rfl hj xO Cj rfl ?_
  refine W.Pt 8 (List.replicate 19 true++[false,false,false,true,true,true,false]) 25 [ja b s v,Ra Ph deps,[(EG,.cells (List.toArray [.int .i64 (Sf (clock::s.lg.map (λ(e:ya)=>e.ct))),s.dc,s.rg]) 44 (0,0))]] Tryz.mix (by kernel_rfl) rfl ?_;repeat' first|refine ga ?_|refine al λ_=>?_|refine Xf (t:=47) deps.enc deps.enc ?_|refine Xf (t:=44) [.int .i64 (Sf (clock::s.lg.map (λ(e:ya)=>e.ct))),s.dc,s.rg] [.int .i64 (Sf (clock::s.lg.map (λ(e:ya)=>e.ct))),s.dc,s.rg] ?_|refine cq hpa ?_|refine cq (Ry Sa.rs (by simp)) ?_|refine Up [deps,Mt s.lg] (λv2 h2 Sa=>?_)|refine jf (t:=42) [s.dc,s.rg,.int .i64 ((Bc s.rg s.lg).at s.dc.toNat+1)] ?_|refine jf (t:=49) (s.entry key val dead deps clock cl op).enc ?_|refine WA.un ?_|refine WA.lf ?_|refine WA.back ?_|refine WA.an ?_ ?_|refine WA.nil ?_
 all_goals
  rename_i b25;refine xg ya.z.enc (s.entry key val dead deps clock cl op).enc ?_;repeat' first|refine ga ?_|refine Xf (t:=49) (s.entry key val dead deps clock cl op).enc (s.entry key val dead deps clock cl op).enc ?_|refine cq ji ?_
  refine KK (ml [6,2]) [ja b s v,Gb b25 (s.entry key val dead deps clock cl op)] ?_;repeat' first|refine ga ?_|refine Xf (t:=49) (s.entry key val dead deps clock cl op).enc (s.entry key val dead deps clock cl op).enc ?_
  refine Up [s.entry key val dead deps clock cl op] (λv4 h4 hs4=>?_);try refine ga ?_
  refine Jt (zb:=by simp only[Ib,td];omega) hs hs4.rs (λv3 h3 Cc=>?_);obtain⟨p3,aL,e3⟩:=Cc.rs.len;subst e3;try refine ga ?_
  refine ei (s.cells v) (CS.cells (s.push (s.entry key val dead deps clock cl op)) (.slice p3 (s.lg++[s.entry key val dead deps clock cl op]).length aL)) ?_;try refine ga ?_
  refine ck (ZA (.slice p3 (s.lg++[s.entry key val dead deps clock cl op]).length aL)) ?_;rintro _ _ ⟨rfl,rfl⟩;refine Za ?_;exact D.Vb [ja b (s.push (s.entry key val dead deps clock cl op)).settle (.slice p3 (s.lg++[s.entry key val dead deps clock cl op]).length aL),h3] _ rfl rfl rfl ⟨by rw[cg],_,h3,rfl,by rw[AG];exact Cc⟩
end Go.Proofs.YthebagfahkebiaaGreat
