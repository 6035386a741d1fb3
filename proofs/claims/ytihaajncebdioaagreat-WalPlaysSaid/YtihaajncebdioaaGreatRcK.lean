/-
  Proved: for every input, causewaylaw8.WalPlays returns true and its argument reads as it did. No condition.
-/
import Derived.Test.YtihaajncebdioaaGreatQZe
import Derived.Test.YtihaajncebdioaaGreatQZd
set_option linter.unusedVariables false
set_option linter.unusedSimpArgs false
namespace Go.Proofs.YtihaajncebdioaaGreat
open Go Go.Sl

set_option maxHeartbeats 1000000 in
theorem wplays_ct {avs : List Av} {rss : List (List Rec)} {v : Value} {h : Hp} (hr : Rs avs v h) (hl : avs.length = rss.length) (hlen : avs.length ≤ 4398046511104) (hrs : ∀ (i : Nat) (a : Av) (rs : List Rec), avs[i]? = some a → rss[i]? = some rs → Rs rs a.v h ∧ rs.length ≤ 1099511627776 ∧ ∀ r ∈ rs, r.size ≤ 562949953421312)
    (han : ∀ a ∈ avs, -9223372036854775808 ≤ a.n ∧ a.n ≤ 9223372036854775807) :
    Ct Tryz.prog 3 [v] [h] (fun r H' => r = .bool true ∧ H' = [h]) := by
  refine Ct.mk' Tryz.func3 rfl rfl rfl (fun g R => ?_)
  try simp only [List.cons_append]
  simp only [List.nil_append]
  repeat' (first | refine go ?_ | refine asg ?_ | fail)
  refine WX.call rfl able_ct rfl ?_
  rintro _ _ ⟨rfl, rfl⟩
  simp only [List.cons_append, List.nil_append]
  repeat' (first | refine go ?_ | refine mv ?_ | (refine I.cond ?_; refine cF ?_) | (refine I.un ?_; refine nt ?_) | fail)
  refine WX.call rfl (much_ct hr hl hlen hrs) rfl ?_
  rintro _ _ ⟨b1, rfl, rfl, hmu⟩
  simp only [List.cons_append, List.nil_append]
  cases b1 with
  | true =>
    repeat' (first | refine go ?_ | refine mv ?_ | refine asg ?_ | (refine I.gd ?_; refine gn ?_) | (refine I.pk ?_; refine pT ?_) | fail)
    exact D.fin1 [h] _ rfl rfl ⟨rfl, rfl⟩
  | false =>
    have hmu := hmu rfl
    repeat' (first | refine mv ?_ | (refine I.gd ?_; refine gy ?_) | fail)
    refine WX.call rfl dnew_ct rfl ?_
    rintro _ _ ⟨d, h0, rfl, rfl, hd0⟩
    have hd0 : IsDk (dk []) d h0 := hd0
    simp only [List.cons_append, List.nil_append]
    repeat' (first | (refine I.gd ?_; refine gy ?_) | fail)
    refine WX.call rfl rnew_ct rfl ?_
    rintro _ _ ⟨e, y0, rfl, rfl, hy0⟩
    have hy0 : RD [] e y0 0 := ⟨[], 0, LR.nil, Int.le_refl 0, hy0⟩
    simp only [List.cons_append, List.nil_append]
    repeat' (first | refine mv ?_ | (refine I.gd ?_; refine gy ?_) | fail)
    refine WX.call rfl (plays_ct hr hl hmu (fun i a rs h1 h2 => (hrs i a rs h1 h2).1) han hd0 hy0) rfl ?_
    rintro _ _ ⟨rfl, rfl⟩
    simp only [List.cons_append, List.nil_append]
    repeat' (first | refine go ?_ | refine asg ?_ | (refine I.pk ?_; refine pF ?_) | fail)
    exact D.fin1 [h] _ rfl rfl ⟨rfl, rfl⟩

set_option maxRecDepth 100000 in
theorem walPlays_lifted (os : Os) (started : os.Started) (H : Type) (enc : TypeId × Value → H) :
    ReturnsInHanded {} Tryz.checked os 3 .any (Rows.walPlaysSpec.pre6 enc Tryz.prog Tryz.f3 Rows.walPlaysRow.domain false) (Rows.walPlaysSpec.post enc Tryz.prog Tryz.f3 false true false false) := by
  refine law_lifted (C := Tryz.checked) (tb := 4) Tryz.own started (by kernel_rfl) Tryz.func3
    (ChangeSpec.witness6 (enc := enc) (C := Tryz.checked) false ⟨#[], #[.slice none 0 0], []⟩ 8 (by kernel_rfl) (by kernel_rfl) (by kernel_rfl) (by kernel_rfl))
    Tryz.laidOut (by kernel_rfl) rfl Tryz.underlying4 rfl (fun ds hd => match ds, hd with | [_], _ => ⟨rfl, rfl, rfl⟩) ?_
  intro W base args ds p hval0 hA0 hwt0
  have hval : ∀ (j : Nat) t v, Tryz.f3.params[j]? = some t → args[j]? = some v → Value.okWide Tryz.prog W .any base t v := hval0
  have hA : DataW.TrodAll enc Tryz.prog W 0 (fun _ => true) true Tryz.f3.params.toList args.toList ds p := hA0
  have hwt : ∀ l ∈ DataW.weightsEach Tryz.prog Tryz.f3.params.toList ds, l ≤ reachBytes := hwt0
  clear hval0 hA0 hwt0
  rw [Tryz.params3] at hA hval hwt
  obtain ⟨v0, d0, rfl, rfl, h0⟩ := ChangeShapes.trodAll_one hA
  obtain ⟨avs, hx, hxz, hxl⟩ := arg_slice (by kernel_rfl) rd_av (hval 0 22 v0 rfl rfl) h0 (weights_each hwt (i := 0) rfl rfl)
  obtain ⟨rss, hl, hrs⟩ := acts_rss hxz
  exact law_calls (wplays_ct hx.rs hl (avs_in hxl) (fun i a rs h1 h2 => by
    obtain ⟨g1, g2, g3⟩ := hrs i a rs h1 h2
    exact ⟨g1.rs, g2, g3⟩) (fun a ha => (hxz a ha).2))

theorem walPlays_holds : Rows.WalPlaysSaid :=
  OpenClaim.holds_of_wide 3 Tryz.f3 rfl rfl rfl rfl rfl rfl rfl ⟨rfl, rfl, rfl, rfl, rfl⟩ rfl rfl rfl rfl rfl (by kernel_rfl) Tryz.func3 (by kernel_rfl)
    (of_decide_eq_true (by kernel_rfl)) (by unfold Func.isWrapper; first | (rw [if_pos (by decide +kernel)]; kernel_rfl) | (rw [if_neg (by decide +kernel)]; exact ⟨rfl, rfl⟩))
    (fun os started H enc _ => walPlays_lifted os started H enc)
end Go.Proofs.YtihaajncebdioaaGreat
