/- Texts of one road. -/
import Derived.Test.YthebagfahkebiaaGreatRBB
set_option linter.all false
set_option maxHeartbeats 8000000
set_option maxRecDepth 20000
namespace Go.Proofs.YthebagfahkebiaaGreat
open Go Go.Sl Go.Proofs.Tryz List
section
variable(n:ua)(b lb hb sb cb d w:Nat)(vw v:Value)(xb:Ob n.c)(Ft:Ke n.c){hv:Hp}(hs:Rs n.c.lg v hv)
include xb Ft hs
theorem mW(m:Da):Ct prog 62 [b,.agg (List.toArray m.enc)] [za b n lb hb sb vw,Pa n lb cb d w,ja cb n.c v,hv]
  (λr H'=>∃h',ia 52 [n.get m] r h'/\H'=[h',za b n lb hb sb vw,Pa n lb cb d w,ja cb n.c v,hv]):=by
 have k1:=Vj n b lb hb sb vw 6 m.fr;have k2:=Sg n.c cb v;have k3:=RF xb.co cb v;have k4:=Dq xb.co cb v;have k5:=aA n.c cb v;have k6:=Gg n.c cb v;have k7:=Bm n.c cb v;have k8:=No n b lb hb sb cb d w vw v xb Ft hs;have tg:=xb.len;have Iq:n.Kb.length<=1000000:=by unfold ua.Kb;rw[Oe];omega
 unfold ua.get;obtain⟨q,hq⟩:∃q:Bool,((n.c.last/\n.c.su=false)\/(¬n.c.last/\n.c.st<n.c.du))↔q=true:=⟨decide _,(decide_eq_true_iff).symm⟩;refine ce func62 λg R=>?_;repeat' first|refine Za ?_|refine Uc λ_=>?_|refine al λ_=>?_|refine WX.Ea (i:=1) (cs:=m.enc) (vs:=m.fr.enc) rfl rfl rfl rfl ?_|refine cq k1 ?_|refine xg Da.z.enc (n.out 6 m.fr).enc ?_
 rename_i b3 b5;refine W.h0 [Yb b5 (n.out 6 m.fr),Yb b3 m,za b n lb hb sb vw,Pa n lb cb d w,ja cb n.c v,hv,R] ?_;refine Wp (ml [5,1]) [Yb b3 m] ?_;try refine ga ?_
 refine ei (Da.enc (n.out 6 m.fr)) (Da.enc {n.out 6 m.fr with op:=m.op}) ?_;try refine ga ?_
 refine ei (Da.enc {n.out 6 m.fr with op:=m.op}) (Da.enc {n.out 6 m.fr with op:=m.op,tr:=m.tr}) ?_;refine WX.nil ?_;refine D.seq ?_;generalize hno:({n.out 6 m.fr with op:=m.op,tr:=m.tr}:Da)=no;have hnc:∀k,n.no 6 m k={no with code:=k}:=λk=>by rw[<-hno];rfl
 refine W.seq ?_;refine W.cj (α:=Unit) (λ_=>True) (λ_=>[(0,b),(3,b3),(5,b5),(6,.bool q)]) (λ_=>[Yb b5 no,Yb b3 m,za b n lb hb sb vw,Pa n lb cb d w,ja cb n.c v,hv,R]) ?_ ?_
 .by_cases c1:n.c.last
  .rw[Mi c1] at k4;obtain⟨su,hsu⟩:∃su,n.c.su=su:=⟨_,rfl⟩;rw[hsu] at k5 hq
   obtain rfl:(!su)=q:=by
    cases su
    .exact(hq.1 (.inl ⟨c1,rfl⟩)).symm
    .cases q
     .rfl
     .exact((hq.2 rfl).elim (λh=>by cases h.2) λh=>absurd c1 h.1)
   cases su
   all_goals
    refine wq ?_;repeat' first|refine ga ?_|refine cq k4 ?_|refine cq k5 ?_
    exact D.aQ () trivial
  .rw[rj c1] at k4;by_cases c2:n.c.st<n.c.du
   .obtain rfl:true=q:=(hq.1 (.inr ⟨c1,c2⟩)).symm;refine wq ?_;repeat' first|refine ga ?_|refine cq k4 ?_|refine cq k6 ?_|refine cq k7 ?_
    refine D.as 6 (.bool true) rfl (by rw[Mi c2]) ?_;exact D.aQ () trivial
   .obtain rfl:false=q:=by
     cases q
     .rfl
     .exact((hq.2 rfl).elim (λh=>absurd h.1 c1) λh=>absurd h.2 c2)
    refine wq ?_;repeat' first|refine ga ?_|refine cq k4 ?_|refine cq k6 ?_|refine cq k7 ?_
    refine D.as 6 (.bool false) rfl (by rw[rj c2]) ?_;exact D.aQ () trivial
 rintro⟨⟩ -;try simp only[]
 have Ix:n.c.nd=n.nd:=(Ga.ur n.s).1;rw[Ix] at k3;by_cases c1:m.ep=n.ep
 .have A0: ¬ ¬m.ep=n.ep:=not_not_intro c1
  cases hf:sk n.c.co n.nd with
  |false=>
   rw[hf] at k3;rw[if_pos (.inr rfl),hnc];try refine ga ?_
   refine wq ?_;repeat' first|refine ga ?_|refine cq k2 ?_|refine cq k3 ?_
   refine ei (Da.enc no) (Da.enc {no with code:=90}) ?_;repeat' first|refine ga ?_|refine Pg (Da.enc {no with code:=90}) ?_
   refine Up [({no with code:=90}:Da)] (λv4 h4 hs4=>?_);try refine ga ?_
   exact Xa [h4,za b n lb hb sb vw,Pa n lb cb d w,ja cb n.c v,hv] rfl rfl ⟨_,hs4,rfl⟩
  |true=>
   rw[hf] at k3;rw[if_neg (λh=>h.elim (λh=>h c1) λh=>by cases h)];try refine ga ?_
   refine wq ?_;repeat' first|refine ga ?_|refine cq k2 ?_|refine cq k3 ?_
   cases q with
   |true=>
    rw[if_pos (hq.2 rfl),hnc];try refine ga ?_
    refine ei (Da.enc no) (Da.enc {no with code:=92}) ?_;repeat' first|refine ga ?_|refine Pg (Da.enc {no with code:=92}) ?_
    refine Up [({no with code:=92}:Da)] (λv4 h4 hs4=>?_);try refine ga ?_
    exact Xa [h4,za b n lb hb sb vw,Pa n lb cb d w,ja cb n.c v,hv] rfl rfl ⟨_,hs4,rfl⟩
   |false=>
    rw[if_neg (λh=>by cases hq.1 h)];have k9:=λ{u:Value} {h:Hp} (hu:Rs n.Kb u h)=>ZS n.rg (n.query m) hu Iq;generalize Cr n.rg (n.query m) n.Kb=a at k9⊢;try simp only[]
    rw[hnc];try refine ga ?_
    refine W.cj (α:=Nat) (λ_=>True) (λy=>[(0,b),(3,b3),(5,b5),(7,y)]) (λy=>[uz y a,Yb b5 no,Yb b3 m,za b n lb hb sb vw,Pa n lb cb d w,ja cb n.c v,hv,R]) ?_ ?_
    .refine U6 (ml [19,4]) [Yb b3 m,za b n lb hb sb vw] ?_;repeat' first|refine ga ?_|refine al λ_=>?_|refine WY.lf ?_|refine WY.back ?_|refine vn 0 ?_|refine vn 1 ?_|refine vn 2 ?_|refine vn 3 ?_|refine vn 4 ?_|refine vn 5 ?_|refine vn 6 ?_|refine vn 7 ?_|refine vn 8 ?_|refine vn 9 ?_|refine vn 10 ?_|refine vn 11 ?_|refine vn 12 ?_|refine vn 13 ?_|refine vn 14 ?_|refine vn 15 ?_|refine vn 16 ?_|refine vn 17 ?_|refine vn 18 ?_|refine WY.Cv 19 21 (by decide+kernel) rfl rfl ?_ ?_|refine WY.Cv 20 21 (by decide+kernel) rfl rfl ?_ ?_|refine KM 19 ?_|refine KM 20 ?_|refine KM 21 ?_|refine KM 22 ?_|refine WY.fin (by kernel_rfl) ?_|refine bn b3 52 m.enc m.dp.enc ?_|refine bn b3 61 m.enc m.av.enc ?_|refine bn b 20 (n.cells lb hb sb vw) n.mr.enc ?_|refine jf (Qy.enc (n.query m)) ?_|(refine I.cl ?_;refine ck k8 ?_;rintro _ _ ⟨h9,Bp,rfl⟩;simp only[ca,na])|refine cq (k9 (ia.rs ‹ia 49 n.Kb _ _›)) ?_|refine xg An.z.enc a.enc ?_
     all_goals exact D.aQ _ trivial
    rintro b7 -;try simp only[]
    refine Wp (ml [9,1,1,1,1,1,1,1]) [uz b7 a] ?_;repeat' first|refine ga ?_|refine bn b7 2 a.enc a.en.enc ?_|refine bn b7 22 a.enc a.col.enc ?_
    refine ei (Da.enc no) (Da.enc {no with code:=a.code}) ?_;try refine ga ?_
    refine ei (Da.enc {no with code:=a.code}) (Da.enc {no with code:=a.code,has:=a.has}) ?_;try refine ga ?_
    refine WX.qd (vs:=a.en.enc) (b:=b5) (i:=27) (cs:=Da.enc {no with code:=a.code,has:=a.has}) rfl rfl rfl (ya.Cp _) (ya.one _) rfl ?_;rw[Da.aY];try refine ga ?_
    refine WX.qd (vs:=a.col.enc) (b:=b5) (i:=70) (cs:=Da.enc {no with code:=a.code,has:=a.has,en:=a.en}) rfl rfl rfl rfl rfl rfl ?_;rw[Da.bY];repeat' first|refine ga ?_|refine Pg (Da.enc {no with code:=a.code,has:=a.has,en:=a.en,c0:=a.col.a,c1:=a.col.b,c2:=a.col.c}) ?_
    refine Up [({no with code:=a.code,has:=a.has,en:=a.en,c0:=a.col.a,c1:=a.col.b,c2:=a.col.c}:Da)] (λv4 h4 hs4=>?_);try refine ga ?_
    exact Xa [h4,za b n lb hb sb vw,Pa n lb cb d w,ja cb n.c v,hv] rfl rfl ⟨_,hs4,rfl⟩
 .rw[if_pos (.inl c1),hnc];try refine ga ?_
  refine wq ?_;repeat' first|refine ga ?_|refine cq k2 ?_
  refine ei (Da.enc no) (Da.enc {no with code:=90}) ?_;repeat' first|refine ga ?_|refine Pg (Da.enc {no with code:=90}) ?_
  refine Up [({no with code:=90}:Da)] (λv4 h4 hs4=>?_);try refine ga ?_
  exact Xa [h4,za b n lb hb sb vw,Pa n lb cb d w,ja cb n.c v,hv] rfl rfl ⟨_,hs4,rfl⟩
end
end Go.Proofs.YthebagfahkebiaaGreat
