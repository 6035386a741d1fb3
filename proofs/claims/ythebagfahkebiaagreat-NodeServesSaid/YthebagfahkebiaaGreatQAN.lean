/- Texts of one road. -/
import Derived.Test.YthebagfahkebiaaGreatQAK
set_option linter.all false
set_option maxHeartbeats 8000000
set_option maxRecDepth 20000
namespace Go.Proofs.YthebagfahkebiaaGreat
open Go Go.Sl Go.Proofs.Tryz List
def SU{s:CS}(ok:Lb s)(b:Nat){v:Value}{hv:Hp}(hs:ia 49 s.lg v hv)(key val:ByteArray)(dead:Bool)(deps:V9)(clock cl op:Int):
  Ct prog 220 [b,.string key,.string val,.bool dead,.agg (List.toArray deps.enc),clock,cl,op] [oa b s v,hv]
   (λr H'=>r= .tuple #[.int .i64 (s.Xf key val dead deps clock cl op).1.1,.int .i64 (s.Xf key val dead deps clock cl op).1.2]/\Fy (s.Xf key val dead deps clock cl op).2 b H'):=by
 have hr:=hs.rs;have jg:=ok.len;have hlen:s.len=(s.lg.length:Int):=rfl;have hih:=bn ok.co b v;have hfo:=bO s b hr (by omega) cl op;have ee:=vr s b hr (by omega);have Lx:=Ey s b hr (by omega) deps;by_cases c1:s.head;rotate_left
 .have e0:s.Xf key val dead deps clock cl op=((0,90),s):=if_pos c1;rw[e0];rw[gj c1] at hih;refine ce func220 λg R=>?_;simp only[can];repeat' first|refine ga ?_|refine Ud λ_=>?_|refine cq hih ?_
  exact D.Vb [oa b s v,hv] _ rfl rfl rfl ⟨rfl,v,hv,rfl,hs⟩
 rw[Fi c1] at hih;by_cases c2:0<Pe s.lg cl op
 .have e0:s.Xf key val dead deps clock cl op=((Pe s.lg cl op,0),s):=by unfold CS.Xf;rw[if_neg (λh=>h c1),if_pos c2]
  rw[e0];refine ce func220 λg R=>?_;simp only[can];repeat' first|refine ga ?_|refine Ud λ_=>?_|refine cq hih ?_|refine cq hfo ?_
  exact D.Vb [oa b s v,hv] _ rfl rfl rfl ⟨rfl,v,hv,rfl,hs⟩
 by_cases c3:s.Tn deps;rotate_left
 .have e0:s.Xf key val dead deps clock cl op=((0,91),s):=by unfold CS.Xf;rw[if_neg (λh=>h c1),if_neg c2,if_pos c3]
  rw[e0];rw[Fi c3] at Lx;by_cases hN:s.ur clock
  .refine ce func220 λg R=>?_;simp only[can];repeat' first|refine ga ?_|refine Ud λ_=>?_|refine cq hih ?_|refine cq hfo ?_
   rename_i nj;refine Kp [clock] (λv1 h1 hs1=>?_);try refine ga ?_
   refine W.h0 [h1,Na nj deps,oa b s v,hv,R] ?_
   refine W.lo (α:=Nat×Value×Hp) (λx=>x.1<=s.lg.length/\ia 3 (clock::(s.lg.take x.1).map (·.ct)) x.2.1 x.2.2) (λx=>[(0,b),(1,.string key),(2,.string val),(3,.bool dead),(6,cl),(7,op),(12,nj),(19,x.2.1),(41,v),(42,.int .i64 (s.lg.length:Int)),(43,.int .i64 (x.1:Int))])
    (λx=>[x.2.2,Na nj deps,oa b s v,hv,R]) (λx=>s.lg.length - x.1) (0,v1,h1) ⟨Gi _,hs1⟩ ?_
   rintro⟨i,w,hw⟩ ⟨hi,hsw⟩;simp only[] at hi hsw⊢;have Hy:(clock::(s.lg.take i).map (·.ct)).length<=257:=by rw[Gb,We,Fe];omega
   by_cases hlt:i<s.lg.length
   .obtain⟨x,hx⟩:=Sh hlt;repeat' first|refine ga ?_|refine al λ_=>?_|refine rG hr hx ?_|refine nh ya.z.enc x.enc ?_
    refine Kp [x.ct] (λv2 h2 Oa=>?_);refine Ys (zb:=by simp only[Gb,jd] at Hy⊢;omega) hsw Oa.rs (λv3 h3 Fc=>?_);have Fc:ia 3 (clock::(s.lg.take (i+1)).map (·.ct)) v3 h3:=by rw[take_add_one,hx,Ae];exact Fc
    try refine ga ?_
    exact D.rd (i+1,v3,h3) ⟨by simp only[];omega,Fc⟩ (by simp only[];omega)
   obtain rfl:i=s.lg.length:=by omega
   rw[take_length] at hsw Hy;have Le:=qq s.dc s.rg hsw.rs (by omega);clear hsw hs1;try refine ga ?_
   rw[Fi hN] at Le;refine W.Ar 8 [true,true,true,true,true,true,true,true,true,false,true,true,true,false,false] 13 [oa b s v] Tryz.mix (by kernel_rfl) rfl ?_;repeat' first|refine ga ?_|refine al λ_=>?_|refine cq Le ?_|refine WA.un ?_|refine WA.Se ?_|refine WA.back ?_|refine WA.an ?_ ?_|refine WA.nil ?_
   all_goals
    rename_i AG;refine WX.h0 [[(AG,.cells (List.toArray [.int .i64 0,.int .i64 0,.int .i64 0]) 44 (0,0))],hw,Na nj deps,oa b s v,hv,R] ?_;refine nh [.int .i64 0,.int .i64 0,.int .i64 0] [.int .i64 (Nf (clock::s.lg.map (λ(e:ya)=>e.ct))),s.dc,s.rg] ?_;repeat' first|refine ga ?_|refine Of (t:=47) deps.enc deps.enc ?_|refine cq Lx ?_
    exact D.Vb [oa b s v,hv] _ rfl rfl rfl ⟨rfl,v,hv,rfl,hs⟩
  .refine ce func220 λg R=>?_;simp only[can];repeat' first|refine ga ?_|refine Ud λ_=>?_|refine cq hih ?_|refine cq hfo ?_
   rename_i nj;refine Kp [clock] (λv1 h1 hs1=>?_);try refine ga ?_
   refine W.h0 [h1,Na nj deps,oa b s v,hv,R] ?_
   refine W.lo (α:=Nat×Value×Hp) (λx=>x.1<=s.lg.length/\ia 3 (clock::(s.lg.take x.1).map (·.ct)) x.2.1 x.2.2) (λx=>[(0,b),(1,.string key),(2,.string val),(3,.bool dead),(6,cl),(7,op),(12,nj),(19,x.2.1),(41,v),(42,.int .i64 (s.lg.length:Int)),(43,.int .i64 (x.1:Int))])
    (λx=>[x.2.2,Na nj deps,oa b s v,hv,R]) (λx=>s.lg.length - x.1) (0,v1,h1) ⟨Gi _,hs1⟩ ?_
   rintro⟨i,w,hw⟩ ⟨hi,hsw⟩;simp only[] at hi hsw⊢;have Hy:(clock::(s.lg.take i).map (·.ct)).length<=257:=by rw[Gb,We,Fe];omega
   by_cases hlt:i<s.lg.length
   .obtain⟨x,hx⟩:=Sh hlt;repeat' first|refine ga ?_|refine al λ_=>?_|refine rG hr hx ?_|refine nh ya.z.enc x.enc ?_
    refine Kp [x.ct] (λv2 h2 Oa=>?_);refine Ys (zb:=by simp only[Gb,jd] at Hy⊢;omega) hsw Oa.rs (λv3 h3 Fc=>?_);have Fc:ia 3 (clock::(s.lg.take (i+1)).map (·.ct)) v3 h3:=by rw[take_add_one,hx,Ae];exact Fc
    try refine ga ?_
    exact D.rd (i+1,v3,h3) ⟨by simp only[];omega,Fc⟩ (by simp only[];omega)
   obtain rfl:i=s.lg.length:=by omega
   rw[take_length] at hsw Hy;have Le:=qq s.dc s.rg hsw.rs (by omega);clear hsw hs1;try refine ga ?_
   rw[gj hN] at Le;refine W.Ar 8 [true,true,true,true,true,true,true,true,true,false,true,true,true,false,false] 13 [oa b s v] Tryz.mix (by kernel_rfl) rfl ?_;repeat' first|refine ga ?_|refine al λ_=>?_|refine cq Le ?_|refine WA.un ?_|refine WA.Se ?_|refine WA.back ?_|refine WA.an ?_ ?_|refine WA.nil ?_
   all_goals
    rename_i AG;refine WX.h0 [[(AG,.cells (List.toArray [.int .i64 0,.int .i64 0,.int .i64 0]) 44 (0,0))],hw,Na nj deps,oa b s v,hv,R] ?_;refine nh [.int .i64 0,.int .i64 0,.int .i64 0] [.int .i64 0,.int .i64 0,.int .i64 0] ?_;repeat' first|refine ga ?_|refine Of (t:=47) deps.enc deps.enc ?_|refine cq Lx ?_
    exact D.Vb [oa b s v,hv] _ rfl rfl rfl ⟨rfl,v,hv,rfl,hs⟩
 rw[gj (λh=>h c3)] at Lx;by_cases hN:s.ur clock;rotate_left
 .have e0:s.Xf key val dead deps clock cl op=((0,2),s):=by unfold CS.Xf;rw[if_neg (λh=>h c1),if_neg c2,if_neg (λh=>h c3),if_pos (.inr hN)]
  rw[e0];refine ce func220 λg R=>?_;simp only[can];repeat' first|refine ga ?_|refine Ud λ_=>?_|refine cq hih ?_|refine cq hfo ?_
  rename_i nj;refine Kp [clock] (λv1 h1 hs1=>?_);try refine ga ?_
  refine W.h0 [h1,Na nj deps,oa b s v,hv,R] ?_
  refine W.lo (α:=Nat×Value×Hp) (λx=>x.1<=s.lg.length/\ia 3 (clock::(s.lg.take x.1).map (·.ct)) x.2.1 x.2.2) (λx=>[(0,b),(1,.string key),(2,.string val),(3,.bool dead),(6,cl),(7,op),(12,nj),(19,x.2.1),(41,v),(42,.int .i64 (s.lg.length:Int)),(43,.int .i64 (x.1:Int))])
   (λx=>[x.2.2,Na nj deps,oa b s v,hv,R]) (λx=>s.lg.length - x.1) (0,v1,h1) ⟨Gi _,hs1⟩ ?_
  rintro⟨i,w,hw⟩ ⟨hi,hsw⟩;simp only[] at hi hsw⊢;have Hy:(clock::(s.lg.take i).map (·.ct)).length<=257:=by rw[Gb,We,Fe];omega
  by_cases hlt:i<s.lg.length
  .obtain⟨x,hx⟩:=Sh hlt;repeat' first|refine ga ?_|refine al λ_=>?_|refine rG hr hx ?_|refine nh ya.z.enc x.enc ?_
   refine Kp [x.ct] (λv2 h2 Oa=>?_);refine Ys (zb:=by simp only[Gb,jd] at Hy⊢;omega) hsw Oa.rs (λv3 h3 Fc=>?_);have Fc:ia 3 (clock::(s.lg.take (i+1)).map (·.ct)) v3 h3:=by rw[take_add_one,hx,Ae];exact Fc
   try refine ga ?_
   exact D.rd (i+1,v3,h3) ⟨by simp only[];omega,Fc⟩ (by simp only[];omega)
  obtain rfl:i=s.lg.length:=by omega
  rw[take_length] at hsw Hy;have Le:=qq s.dc s.rg hsw.rs (by omega);clear hsw hs1;try refine ga ?_
  rw[gj hN] at Le;refine W.Ar 8 [true,true,true,true,true,true,true,true,true,false,true,true,true,false,false] 13 [oa b s v] Tryz.mix (by kernel_rfl) rfl ?_;repeat' first|refine ga ?_|refine al λ_=>?_|refine cq Le ?_|refine WA.un ?_|refine WA.Se ?_|refine WA.back ?_|refine WA.an ?_ ?_|refine WA.nil ?_
  all_goals
   by_cases c4:256<=s.len
   .rename_i AG;refine WX.h0 [[(AG,.cells (List.toArray [.int .i64 0,.int .i64 0,.int .i64 0]) 44 (0,0))],hw,Na nj deps,oa b s v,hv,R] ?_;refine nh [.int .i64 0,.int .i64 0,.int .i64 0] [.int .i64 0,.int .i64 0,.int .i64 0] ?_;repeat' first|refine ga ?_|refine Of (t:=47) deps.enc deps.enc ?_|refine cq Lx ?_
    exact D.Vb [oa b s v,hv] _ rfl rfl rfl ⟨rfl,v,hv,rfl,hs⟩
   .rename_i AG;refine WX.h0 [[(AG,.cells (List.toArray [.int .i64 0,.int .i64 0,.int .i64 0]) 44 (0,0))],hw,Na nj deps,oa b s v,hv,R] ?_;refine nh [.int .i64 0,.int .i64 0,.int .i64 0] [.int .i64 0,.int .i64 0,.int .i64 0] ?_;repeat' first|refine ga ?_|refine Of (t:=47) deps.enc deps.enc ?_|refine cq Lx ?_
    exact D.Vb [oa b s v,hv] _ rfl rfl rfl ⟨rfl,v,hv,rfl,hs⟩
 by_cases c4:256<=s.len
 .have e0:s.Xf key val dead deps clock cl op=((0,2),s):=by unfold CS.Xf;rw[if_neg (λh=>h c1),if_neg c2,if_neg (λh=>h c3),if_pos (.inl c4)]
  rw[e0];refine ce func220 λg R=>?_;simp only[can];repeat' first|refine ga ?_|refine Ud λ_=>?_|refine cq hih ?_|refine cq hfo ?_
  rename_i nj;refine Kp [clock] (λv1 h1 hs1=>?_);try refine ga ?_
  refine W.h0 [h1,Na nj deps,oa b s v,hv,R] ?_
  refine W.lo (α:=Nat×Value×Hp) (λx=>x.1<=s.lg.length/\ia 3 (clock::(s.lg.take x.1).map (·.ct)) x.2.1 x.2.2) (λx=>[(0,b),(1,.string key),(2,.string val),(3,.bool dead),(6,cl),(7,op),(12,nj),(19,x.2.1),(41,v),(42,.int .i64 (s.lg.length:Int)),(43,.int .i64 (x.1:Int))])
   (λx=>[x.2.2,Na nj deps,oa b s v,hv,R]) (λx=>s.lg.length - x.1) (0,v1,h1) ⟨Gi _,hs1⟩ ?_
  rintro⟨i,w,hw⟩ ⟨hi,hsw⟩;simp only[] at hi hsw⊢;have Hy:(clock::(s.lg.take i).map (·.ct)).length<=257:=by rw[Gb,We,Fe];omega
  by_cases hlt:i<s.lg.length
  .obtain⟨x,hx⟩:=Sh hlt;repeat' first|refine ga ?_|refine al λ_=>?_|refine rG hr hx ?_|refine nh ya.z.enc x.enc ?_
   refine Kp [x.ct] (λv2 h2 Oa=>?_);refine Ys (zb:=by simp only[Gb,jd] at Hy⊢;omega) hsw Oa.rs (λv3 h3 Fc=>?_);have Fc:ia 3 (clock::(s.lg.take (i+1)).map (·.ct)) v3 h3:=by rw[take_add_one,hx,Ae];exact Fc
   try refine ga ?_
   exact D.rd (i+1,v3,h3) ⟨by simp only[];omega,Fc⟩ (by simp only[];omega)
  obtain rfl:i=s.lg.length:=by omega
  rw[take_length] at hsw Hy;have Le:=qq s.dc s.rg hsw.rs (by omega);clear hsw hs1;try refine ga ?_
  rw[Fi hN] at Le;refine W.Ar 8 [true,true,true,true,true,true,true,true,true,false,true,true,true,false,false] 13 [oa b s v] Tryz.mix (by kernel_rfl) rfl ?_;repeat' first|refine ga ?_|refine al λ_=>?_|refine cq Le ?_|refine WA.un ?_|refine WA.Se ?_|refine WA.back ?_|refine WA.an ?_ ?_|refine WA.nil ?_
  all_goals
   rename_i AG;refine WX.h0 [[(AG,.cells (List.toArray [.int .i64 0,.int .i64 0,.int .i64 0]) 44 (0,0))],hw,Na nj deps,oa b s v,hv,R] ?_;refine nh [.int .i64 0,.int .i64 0,.int .i64 0] [.int .i64 (Nf (clock::s.lg.map (λ(e:ya)=>e.ct))),s.dc,s.rg] ?_;repeat' first|refine ga ?_|refine Of (t:=47) deps.enc deps.enc ?_|refine cq Lx ?_
   exact D.Vb [oa b s v,hv] _ rfl rfl rfl ⟨rfl,v,hv,rfl,hs⟩
 have hj:s.dc=(s.dc.toNat:Int):=by have:=hN.2.2.1;omega
 have fO:s.dc.toNat<3:=by have:=hN.2.2.2.1;omega
 have zj:=(ic s.rg s.lg).Vd fO;have cB:=Ui s.rg ok.es fO;simp only[MC] at cB;have hpa:=PU hr (by omega);have kj:=Jx (s.entry key val dead deps clock cl op);have LX: ¬(256<=s.len\/ ¬s.ur clock):=λh=>h.elim c4 (λh=>h hN);by_cases c5:Xc (s.entry key val dead deps clock cl op);rotate_left
 .have e0:s.Xf key val dead deps clock cl op=((0,1),s):=by unfold CS.Xf;rw[if_neg (λh=>h c1),if_neg c2,if_neg (λh=>h c3),if_neg LX,if_pos c5]
  rw[e0];rw[gj c5] at kj;refine ce func220 λg R=>?_;simp only[can];repeat' first|refine ga ?_|refine Ud λ_=>?_|refine cq hih ?_|refine cq hfo ?_
  rename_i nj;refine Kp [clock] (λv1 h1 hs1=>?_);try refine ga ?_
  refine W.h0 [h1,Na nj deps,oa b s v,hv,R] ?_
  refine W.lo (α:=Nat×Value×Hp) (λx=>x.1<=s.lg.length/\ia 3 (clock::(s.lg.take x.1).map (·.ct)) x.2.1 x.2.2) (λx=>[(0,b),(1,.string key),(2,.string val),(3,.bool dead),(6,cl),(7,op),(12,nj),(19,x.2.1),(41,v),(42,.int .i64 (s.lg.length:Int)),(43,.int .i64 (x.1:Int))])
   (λx=>[x.2.2,Na nj deps,oa b s v,hv,R]) (λx=>s.lg.length - x.1) (0,v1,h1) ⟨Gi _,hs1⟩ ?_
  rintro⟨i,w,hw⟩ ⟨hi,hsw⟩;simp only[] at hi hsw⊢;have Hy:(clock::(s.lg.take i).map (·.ct)).length<=257:=by rw[Gb,We,Fe];omega
  by_cases hlt:i<s.lg.length
  .obtain⟨x,hx⟩:=Sh hlt;repeat' first|refine ga ?_|refine al λ_=>?_|refine rG hr hx ?_|refine nh ya.z.enc x.enc ?_
   refine Kp [x.ct] (λv2 h2 Oa=>?_);refine Ys (zb:=by simp only[Gb,jd] at Hy⊢;omega) hsw Oa.rs (λv3 h3 Fc=>?_);have Fc:ia 3 (clock::(s.lg.take (i+1)).map (·.ct)) v3 h3:=by rw[take_add_one,hx,Ae];exact Fc
   try refine ga ?_
   exact D.rd (i+1,v3,h3) ⟨by simp only[];omega,Fc⟩ (by simp only[];omega)
  obtain rfl:i=s.lg.length:=by omega
  rw[take_length] at hsw Hy;have Le:=qq s.dc s.rg hsw.rs (by omega);clear hsw hs1;try refine ga ?_
  rw[Fi hN] at Le;refine W.Ar 8 [true,true,true,true,true,true,true,true,true,false,true,true,true,false,false] 13 [oa b s v] Tryz.mix (by kernel_rfl) rfl ?_;repeat' first|refine ga ?_|refine al λ_=>?_|refine cq Le ?_|refine WA.un ?_|refine WA.Se ?_|refine WA.back ?_|refine WA.an ?_ ?_|refine WA.nil ?_
  all_goals
   rename_i AG;refine WX.h0 [[(AG,.cells (List.toArray [.int .i64 0,.int .i64 0,.int .i64 0]) 44 (0,0))],hw,Na nj deps,oa b s v,hv,R] ?_;refine nh [.int .i64 0,.int .i64 0,.int .i64 0] [.int .i64 (Nf (clock::s.lg.map (λ(e:ya)=>e.ct))),s.dc,s.rg] ?_;repeat' first|refine ga ?_|refine Of (t:=47) deps.enc deps.enc ?_|refine cq Lx ?_
   refine W.h0 [[(AG,.cells (List.toArray [.int .i64 (Nf (clock::s.lg.map (λ(e:ya)=>e.ct))),s.dc,s.rg]) 44 (0,0))],hw,Na nj deps,oa b s v,hv,R] ?_;refine wq ?_;repeat' first|refine ga ?_|refine cq ee ?_|refine WX.EE rfl rfl hj fO zj rfl ?_
   refine W.Ar 8 (List.replicate 19 true++[false,false,false,true,true,true,false]) 25 [oa b s v,Na nj deps,[(AG,.cells (List.toArray [.int .i64 (Nf (clock::s.lg.map (λ(e:ya)=>e.ct))),s.dc,s.rg]) 44 (0,0))]] Tryz.mix (by kernel_rfl) rfl ?_;repeat' first|refine ga ?_|refine al λ_=>?_|refine Of (t:=47) deps.enc deps.enc ?_|refine Of (t:=44) [.int .i64 (Nf (clock::s.lg.map (λ(e:ya)=>e.ct))),s.dc,s.rg] [.int .i64 (Nf (clock::s.lg.map (λ(e:ya)=>e.ct))),s.dc,s.rg] ?_|refine cq hpa ?_|refine cq (Ay Oa.rs (by simp)) ?_|refine Kp [deps,qt s.lg] (λv2 h2 Oa=>?_)|refine Vf (t:=42) [s.dc,s.rg,.int .i64 ((ic s.rg s.lg).at s.dc.toNat+1)] ?_|refine Vf (t:=49) (s.entry key val dead deps clock cl op).enc ?_|refine WA.un ?_|refine WA.Se ?_|refine WA.back ?_|refine WA.an ?_ ?_|refine WA.nil ?_
  all_goals
   rename_i b25;refine nh ya.z.enc (s.entry key val dead deps clock cl op).enc ?_;repeat' first|refine ga ?_|refine Of (t:=49) (s.entry key val dead deps clock cl op).enc (s.entry key val dead deps clock cl op).enc ?_|refine cq kj ?_
   exact D.Vb [oa b s v,hv] _ rfl rfl rfl ⟨rfl,v,hv,rfl,hs⟩
 rw[Fi c5] at kj;have e0:s.Xf key val dead deps clock cl op=((s.len+1,0),(s.push (s.entry key val dead deps clock cl op)).settle):=by unfold CS.Xf;rw[if_neg (λh=>h c1),if_neg c2,if_neg (λh=>h c3),if_neg LX,if_neg (λh=>h c5)]
 rw[e0];have ZA:=λv'=>Te (s:=s.push (s.entry key val dead deps clock cl op)) ok.co b v';have Pf:((s.lg++[s.entry key val dead deps clock cl op]).length:Int)=s.len+1:=by rw[Cb,hlen];rfl
 refine ce func220 λg R=>?_;simp only[can];repeat' first|refine ga ?_|refine Ud λ_=>?_|refine cq hih ?_|refine cq hfo ?_
 rename_i nj;refine Kp [clock] (λv1 h1 hs1=>?_);try refine ga ?_
 refine W.h0 [h1,Na nj deps,oa b s v,hv,R] ?_
 refine W.lo (α:=Nat×Value×Hp) (λx=>x.1<=s.lg.length/\ia 3 (clock::(s.lg.take x.1).map (·.ct)) x.2.1 x.2.2) (λx=>[(0,b),(1,.string key),(2,.string val),(3,.bool dead),(6,cl),(7,op),(12,nj),(19,x.2.1),(41,v),(42,.int .i64 (s.lg.length:Int)),(43,.int .i64 (x.1:Int))])
  (λx=>[x.2.2,Na nj deps,oa b s v,hv,R]) (λx=>s.lg.length - x.1) (0,v1,h1) ⟨Gi _,hs1⟩ ?_
 rintro⟨i,w,hw⟩ ⟨hi,hsw⟩;simp only[] at hi hsw⊢;have Hy:(clock::(s.lg.take i).map (·.ct)).length<=257:=by rw[Gb,We,Fe];omega
 by_cases hlt:i<s.lg.length
 .obtain⟨x,hx⟩:=Sh hlt;repeat' first|refine ga ?_|refine al λ_=>?_|refine rG hr hx ?_|refine nh ya.z.enc x.enc ?_
  refine Kp [x.ct] (λv2 h2 Oa=>?_);refine Ys (zb:=by simp only[Gb,jd] at Hy⊢;omega) hsw Oa.rs (λv3 h3 Fc=>?_);have Fc:ia 3 (clock::(s.lg.take (i+1)).map (·.ct)) v3 h3:=by rw[take_add_one,hx,Ae];exact Fc
  try refine ga ?_
  exact D.rd (i+1,v3,h3) ⟨by simp only[];omega,Fc⟩ (by simp only[];omega)
 obtain rfl:i=s.lg.length:=by omega
 rw[take_length] at hsw Hy;have Le:=qq s.dc s.rg hsw.rs (by omega);clear hsw hs1;try refine ga ?_
 rw[Fi hN] at Le;refine W.Ar 8 [true,true,true,true,true,true,true,true,true,false,true,true,true,false,false] 13 [oa b s v] Tryz.mix (by kernel_rfl) rfl ?_;repeat' first|refine ga ?_|refine al λ_=>?_|refine cq Le ?_|refine WA.un ?_|refine WA.Se ?_|refine WA.back ?_|refine WA.an ?_ ?_|refine WA.nil ?_
 all_goals
  rename_i AG;refine WX.h0 [[(AG,.cells (List.toArray [.int .i64 0,.int .i64 0,.int .i64 0]) 44 (0,0))],hw,Na nj deps,oa b s v,hv,R] ?_;refine nh [.int .i64 0,.int .i64 0,.int .i64 0] [.int .i64 (Nf (clock::s.lg.map (λ(e:ya)=>e.ct))),s.dc,s.rg] ?_;repeat' first|refine ga ?_|refine Of (t:=47) deps.enc deps.enc ?_|refine cq Lx ?_
  refine W.h0 [[(AG,.cells (List.toArray [.int .i64 (Nf (clock::s.lg.map (λ(e:ya)=>e.ct))),s.dc,s.rg]) 44 (0,0))],hw,Na nj deps,oa b s v,hv,R] ?_;refine wq ?_;repeat' first|refine ga ?_|refine cq ee ?_|refine WX.EE rfl rfl hj fO zj rfl ?_
  refine W.Ar 8 (List.replicate 19 true++[false,false,false,true,true,true,false]) 25 [oa b s v,Na nj deps,[(AG,.cells (List.toArray [.int .i64 (Nf (clock::s.lg.map (λ(e:ya)=>e.ct))),s.dc,s.rg]) 44 (0,0))]] Tryz.mix (by kernel_rfl) rfl ?_;repeat' first|refine ga ?_|refine al λ_=>?_|refine Of (t:=47) deps.enc deps.enc ?_|refine Of (t:=44) [.int .i64 (Nf (clock::s.lg.map (λ(e:ya)=>e.ct))),s.dc,s.rg] [.int .i64 (Nf (clock::s.lg.map (λ(e:ya)=>e.ct))),s.dc,s.rg] ?_|refine cq hpa ?_|refine cq (Ay Oa.rs (by simp)) ?_|refine Kp [deps,qt s.lg] (λv2 h2 Oa=>?_)|refine Vf (t:=42) [s.dc,s.rg,.int .i64 ((ic s.rg s.lg).at s.dc.toNat+1)] ?_|refine Vf (t:=49) (s.entry key val dead deps clock cl op).enc ?_|refine WA.un ?_|refine WA.Se ?_|refine WA.back ?_|refine WA.an ?_ ?_|refine WA.nil ?_
 all_goals
  rename_i b25;refine nh ya.z.enc (s.entry key val dead deps clock cl op).enc ?_;repeat' first|refine ga ?_|refine Of (t:=49) (s.entry key val dead deps clock cl op).enc (s.entry key val dead deps clock cl op).enc ?_|refine cq kj ?_
  refine sK (ml [6,2]) [oa b s v,Fb b25 (s.entry key val dead deps clock cl op)] ?_;repeat' first|refine ga ?_|refine Of (t:=49) (s.entry key val dead deps clock cl op).enc (s.entry key val dead deps clock cl op).enc ?_
  refine Kp [s.entry key val dead deps clock cl op] (λv4 h4 hs4=>?_);try refine ga ?_
  refine Ys (zb:=by simp only[Gb,jd];omega) hs hs4.rs (λv3 h3 Fc=>?_);obtain⟨p3,MK,e3⟩:=Fc.rs.len;subst e3;try refine ga ?_
  refine Wh (s.cells v) (CS.cells (s.push (s.entry key val dead deps clock cl op)) (.slice p3 (s.lg++[s.entry key val dead deps clock cl op]).length MK)) ?_;try refine ga ?_
  refine ck (ZA (.slice p3 (s.lg++[s.entry key val dead deps clock cl op]).length MK)) ?_;rintro _ _ ⟨rfl,rfl⟩;refine vb ?_;exact D.Vb [oa b (s.push (s.entry key val dead deps clock cl op)).settle (.slice p3 (s.lg++[s.entry key val dead deps clock cl op]).length MK),h3] _ rfl rfl rfl ⟨by rw[Pf],_,h3,rfl,by rw[wG];exact Fc⟩
end Go.Proofs.YthebagfahkebiaaGreat
