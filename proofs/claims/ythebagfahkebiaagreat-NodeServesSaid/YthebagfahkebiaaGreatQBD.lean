/- Texts of one road. -/
import Derived.Test.YthebagfahkebiaaGreatQBB
set_option linter.all false
set_option maxHeartbeats 8000000
set_option maxRecDepth 20000
namespace Go.Proofs.YthebagfahkebiaaGreat
open Go Go.Sl Go.Proofs.Tryz List
section
variable(n:va)(b lb hb sb cb d w:Nat)(vw v:Value)(ob:Lb n.c)(Us:Je n.c){hv:Hp}(hs:Rs n.c.lg v hv)
include ob Us hs
theorem fW(m:Da):Ct prog 62 [b,.agg (List.toArray m.enc)] [za b n lb hb sb vw,xb n lb cb d w,oa cb n.c v,hv]
  (λr H'=>∃h',ia 52 [n.get m] r h'/\H'=[h',za b n lb hb sb vw,xb n lb cb d w,oa cb n.c v,hv]):=by
 have k1:=Sj n b lb hb sb vw 6 m.fr;have k2:=Si n.c cb v;have k3:=wP ob.co cb v;have k4:=Zm ob.co cb v;have k5:=Nz n.c cb v;have k6:=Ag n.c cb v;have k7:=Vn n.c cb v;have k8:=Co n b lb hb sb cb d w vw v ob Us hs;have jg:=ob.len;have uq:n.Ab.length<=1000000:=by unfold va.Ab;rw[Fe];omega
 unfold va.get;obtain⟨q,hq⟩:∃q:Bool,((n.c.last/\n.c.su=false)\/(¬n.c.last/\n.c.st<n.c.du))↔q=true:=⟨decide _,(decide_eq_true_iff).symm⟩;refine ce func62 λg R=>?_;repeat' first|refine vb ?_|refine Ud λ_=>?_|refine al λ_=>?_|refine WX.Fa (i:=1) (cs:=m.enc) (vs:=m.fr.enc) rfl rfl rfl rfl ?_|refine cq k1 ?_|refine nh Da.z.enc (n.out 6 m.fr).enc ?_
 rename_i b3 b5;refine W.h0 [Jc b5 (n.out 6 m.fr),Jc b3 m,za b n lb hb sb vw,xb n lb cb d w,oa cb n.c v,hv,R] ?_;refine Ns (ml [5,1]) [Jc b3 m] ?_;try refine ga ?_
 refine Wh (Da.enc (n.out 6 m.fr)) (Da.enc {n.out 6 m.fr with op:=m.op}) ?_;try refine ga ?_
 refine Wh (Da.enc {n.out 6 m.fr with op:=m.op}) (Da.enc {n.out 6 m.fr with op:=m.op,tr:=m.tr}) ?_;refine WX.nil ?_;refine D.seq ?_;generalize hno:({n.out 6 m.fr with op:=m.op,tr:=m.tr}:Da)=no;have hnc:∀k,n.no 6 m k={no with code:=k}:=λk=>by rw[<-hno];rfl
 refine W.seq ?_;refine W.gi (α:=Unit) (λ_=>True) (λ_=>[(0,b),(3,b3),(5,b5),(6,.bool q)]) (λ_=>[Jc b5 no,Jc b3 m,za b n lb hb sb vw,xb n lb cb d w,oa cb n.c v,hv,R]) ?_ ?_
 .by_cases c1:n.c.last
  .rw[Fi c1] at k4;obtain⟨su,hsu⟩:∃su,n.c.su=su:=⟨_,rfl⟩;rw[hsu] at k5 hq
   obtain rfl:(!su)=q:=by
    cases su
    .exact(hq.1 (.inl ⟨c1,rfl⟩)).symm
    .cases q
     .rfl
     .exact((hq.2 rfl).elim (λh=>by cases h.2) λh=>absurd c1 h.1)
   cases su
   all_goals
    refine wq ?_;repeat' first|refine ga ?_|refine cq k4 ?_|refine cq k5 ?_
    exact D.aQ () trivial
  .rw[gj c1] at k4;by_cases c2:n.c.st<n.c.du
   .obtain rfl:true=q:=(hq.1 (.inr ⟨c1,c2⟩)).symm;refine wq ?_;repeat' first|refine ga ?_|refine cq k4 ?_|refine cq k6 ?_|refine cq k7 ?_
    refine D.as 6 (.bool true) rfl (by rw[Fi c2]) ?_;exact D.aQ () trivial
   .obtain rfl:false=q:=by
     cases q
     .rfl
     .exact((hq.2 rfl).elim (λh=>absurd h.1 c1) λh=>absurd h.2 c2)
    refine wq ?_;repeat' first|refine ga ?_|refine cq k4 ?_|refine cq k6 ?_|refine cq k7 ?_
    refine D.as 6 (.bool false) rfl (by rw[gj c2]) ?_;exact D.aQ () trivial
 rintro⟨⟩ -;try simp only[]
 have iB:n.c.nd=n.nd:=(Ea.Uq n.s).1;rw[iB] at k3;by_cases c1:m.ep=n.ep
 .have j0: ¬ ¬m.ep=n.ep:=not_not_intro c1
  cases hf:xm n.c.co n.nd with
  |false=>
   rw[hf] at k3;rw[if_pos (.inr rfl),hnc];try refine ga ?_
   refine wq ?_;repeat' first|refine ga ?_|refine cq k2 ?_|refine cq k3 ?_
   refine Wh (Da.enc no) (Da.enc {no with code:=90}) ?_;repeat' first|refine ga ?_|refine yj (Da.enc {no with code:=90}) ?_
   refine Kp [({no with code:=90}:Da)] (λv4 h4 hs4=>?_);try refine ga ?_
   exact Wa [h4,za b n lb hb sb vw,xb n lb cb d w,oa cb n.c v,hv] rfl rfl ⟨_,hs4,rfl⟩
  |true=>
   rw[hf] at k3;rw[if_neg (λh=>h.elim (λh=>h c1) λh=>by cases h)];try refine ga ?_
   refine wq ?_;repeat' first|refine ga ?_|refine cq k2 ?_|refine cq k3 ?_
   cases q with
   |true=>
    rw[if_pos (hq.2 rfl),hnc];try refine ga ?_
    refine Wh (Da.enc no) (Da.enc {no with code:=92}) ?_;repeat' first|refine ga ?_|refine yj (Da.enc {no with code:=92}) ?_
    refine Kp [({no with code:=92}:Da)] (λv4 h4 hs4=>?_);try refine ga ?_
    exact Wa [h4,za b n lb hb sb vw,xb n lb cb d w,oa cb n.c v,hv] rfl rfl ⟨_,hs4,rfl⟩
   |false=>
    rw[if_neg (λh=>by cases hq.1 h)];have k9:=λ{u:Value} {h:Hp} (hu:Rs n.Ab u h)=>SS n.rg (n.query m) hu uq;generalize Xy n.rg (n.query m) n.Ab=a at k9⊢;try simp only[]
    rw[hnc];try refine ga ?_
    refine W.gi (α:=Nat) (λ_=>True) (λy=>[(0,b),(3,b3),(5,b5),(7,y)]) (λy=>[Yy y a,Jc b5 no,Jc b3 m,za b n lb hb sb vw,xb n lb cb d w,oa cb n.c v,hv,R]) ?_ ?_
    .refine w6 (ml [19,4]) [Jc b3 m,za b n lb hb sb vw] ?_;repeat' first|refine ga ?_|refine al λ_=>?_|refine WY.Se ?_|refine WY.back ?_|refine Uk 0 ?_|refine Uk 1 ?_|refine Uk 2 ?_|refine Uk 3 ?_|refine Uk 4 ?_|refine Uk 5 ?_|refine Uk 6 ?_|refine Uk 7 ?_|refine Uk 8 ?_|refine Uk 9 ?_|refine Uk 10 ?_|refine Uk 11 ?_|refine Uk 12 ?_|refine Uk 13 ?_|refine Uk 14 ?_|refine Uk 15 ?_|refine Uk 16 ?_|refine Uk 17 ?_|refine Uk 18 ?_|refine WY.Ts 19 21 (by decide+kernel) rfl rfl ?_ ?_|refine WY.Ts 20 21 (by decide+kernel) rfl rfl ?_ ?_|refine uK 19 ?_|refine uK 20 ?_|refine uK 21 ?_|refine uK 22 ?_|refine WY.fin (by kernel_rfl) ?_|refine Xm b3 52 m.enc m.dp.enc ?_|refine Xm b3 61 m.enc m.av.enc ?_|refine Xm b 20 (n.cells lb hb sb vw) n.mr.enc ?_|refine Vf (Qy.enc (n.query m)) ?_|(refine I.cl ?_;refine ck k8 ?_;rintro _ _ ⟨h9,Wo,rfl⟩;simp only[ca,na])|refine cq (k9 (ia.rs ‹ia 49 n.Ab _ _›)) ?_|refine nh An.z.enc a.enc ?_
     all_goals exact D.aQ _ trivial
    rintro b7 -;try simp only[]
    refine Ns (ml [9,1,1,1,1,1,1,1]) [Yy b7 a] ?_;repeat' first|refine ga ?_|refine Xm b7 2 a.enc a.en.enc ?_|refine Xm b7 22 a.enc a.col.enc ?_
    refine Wh (Da.enc no) (Da.enc {no with code:=a.code}) ?_;try refine ga ?_
    refine Wh (Da.enc {no with code:=a.code}) (Da.enc {no with code:=a.code,has:=a.has}) ?_;try refine ga ?_
    refine WX.Yc (vs:=a.en.enc) (b:=b5) (i:=27) (cs:=Da.enc {no with code:=a.code,has:=a.has}) rfl rfl rfl (ya.Xo _) (ya.one _) rfl ?_;rw[Da.XX];try refine ga ?_
    refine WX.Yc (vs:=a.col.enc) (b:=b5) (i:=70) (cs:=Da.enc {no with code:=a.code,has:=a.has,en:=a.en}) rfl rfl rfl rfl rfl rfl ?_;rw[Da.YX];repeat' first|refine ga ?_|refine yj (Da.enc {no with code:=a.code,has:=a.has,en:=a.en,c0:=a.col.a,c1:=a.col.b,c2:=a.col.c}) ?_
    refine Kp [({no with code:=a.code,has:=a.has,en:=a.en,c0:=a.col.a,c1:=a.col.b,c2:=a.col.c}:Da)] (λv4 h4 hs4=>?_);try refine ga ?_
    exact Wa [h4,za b n lb hb sb vw,xb n lb cb d w,oa cb n.c v,hv] rfl rfl ⟨_,hs4,rfl⟩
 .rw[if_pos (.inl c1),hnc];try refine ga ?_
  refine wq ?_;repeat' first|refine ga ?_|refine cq k2 ?_
  refine Wh (Da.enc no) (Da.enc {no with code:=90}) ?_;repeat' first|refine ga ?_|refine yj (Da.enc {no with code:=90}) ?_
  refine Kp [({no with code:=90}:Da)] (λv4 h4 hs4=>?_);try refine ga ?_
  exact Wa [h4,za b n lb hb sb vw,xb n lb cb d w,oa cb n.c v,hv] rfl rfl ⟨_,hs4,rfl⟩
end
end Go.Proofs.YthebagfahkebiaaGreat
