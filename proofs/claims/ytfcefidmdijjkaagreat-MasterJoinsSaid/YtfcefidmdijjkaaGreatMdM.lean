/-
  Proved: for every input, causewaylaw14.MasterJoins returns true and its arguments read as they did. No condition.
-/
import Derived.Test.YtfcefidmdijjkaaGreatQMPm
import Derived.Test.YtfcefidmdijjkaaGreatQMPf
import Derived.Test.YtfcefidmdijjkaaGreatQMPd
set_option linter.unusedVariables false
set_option linter.unusedSimpArgs false
namespace Go.Proofs.YtfcefidmdijjkaaGreat
open Go Go.Sl

theorem mact_in {n : Nat} (hl : n * Tryz.prog.bytesOf 56 ≤ reachBytes) : n ≤ 1099511627776 := by
  rw [show Tryz.prog.bytesOf 56 = 648 by kernel_rfl] at hl
  unfold reachBytes at hl; omega
set_option maxRecDepth 100000 in
theorem masterJoins_lifted (os : Os) (started : os.Started) (H : Type) (enc : TypeId × Value → H) :
    ReturnsInHanded {} Tryz.checked os 6 .any (Rows.masterJoinsSpec.pre6 enc Tryz.prog Tryz.f6 Rows.masterJoinsRow.domain false) (Rows.masterJoinsSpec.post enc Tryz.prog Tryz.f6 false true false false) := by
  refine law_lifted (C := Tryz.checked) (tb := 4) Tryz.own started (by kernel_rfl) Tryz.func6
    (ChangeSpec.witness6 (enc := enc) (C := Tryz.checked) false ⟨#[], #[.agg #[.int .i64 0, .int .i64 0, .int .i64 0, .int .i64 0], .slice none 0 0, .int .i64 0, .int .i64 0], []⟩ 8 (by kernel_rfl) (by kernel_rfl) (by kernel_rfl) (by kernel_rfl))
    Tryz.laidOut (by kernel_rfl) rfl Tryz.underlying4 rfl (fun ds hd => match ds, hd with | [_, _, _, _], _ => ⟨rfl, rfl, rfl⟩) ?_
  intro W base args ds p hval0 hA0 hwt0
  have hval : ∀ (j : Nat) t v, Tryz.f6.params[j]? = some t → args[j]? = some v → Value.okWide Tryz.prog W .any base t v := hval0
  have hA : DataW.TrodAll enc Tryz.prog W 0 (fun _ => true) true Tryz.f6.params.toList args.toList ds p := hA0
  have hwt : ∀ l ∈ DataW.weightsEach Tryz.prog Tryz.f6.params.toList ds, l ≤ reachBytes := hwt0
  clear hval0 hA0 hwt0
  rw [Tryz.params6] at hA hval hwt
  obtain ⟨v0, w0, d0, e0, p0, q0, hargs, rfl, rfl, h0, g0⟩ := ChangeShapes.trodAll_cons hA
  obtain ⟨v1, w1, d1, e1, p1, q1, rfl, rfl, rfl, h1, g1⟩ := ChangeShapes.trodAll_cons g0
  obtain ⟨v2, w2, d2, e2, p2, q2, rfl, rfl, rfl, h2, g2⟩ := ChangeShapes.trodAll_cons g1
  obtain ⟨v3, w3, d3, e3, p3, q3, rfl, rfl, rfl, h3, g3⟩ := ChangeShapes.trodAll_cons g2
  obtain ⟨rfl, rfl, rfl⟩ := ChangeShapes.trodAll_nil g3
  obtain rfl : args = #[v0, v1, v2, v3] := by rw [← Array.toList_inj]; exact hargs
  obtain ⟨l, rfl, hl, _⟩ := arg_struct 0 rd_lay (hval 0 23 v0 rfl rfl) h0 (weights_each hwt (i := 0) rfl rfl)
  obtain ⟨xs, hx, hxz, hxl⟩ := arg_slice (by kernel_rfl) rd_ac (hval 1 24 v1 rfl rfl) h1 (weights_each hwt (i := 1) rfl rfl)
  obtain ⟨ra, rfl, _⟩ := arg_int (hval 2 3 v2 rfl rfl) h2
  obtain ⟨na, rfl, _⟩ := arg_int (hval 3 3 v3 rfl rfl) h3
  exact law_calls (mjoins_ct hl hx.rs (mact_in hxl) ra na)

theorem masterJoins_holds : Rows.MasterJoinsSaid :=
  OpenClaim.holds_of_wide 6 Tryz.f6 rfl rfl rfl rfl rfl rfl rfl ⟨rfl, rfl, rfl, rfl, rfl⟩ rfl rfl rfl rfl rfl (by kernel_rfl) Tryz.func6 (by kernel_rfl)
    (of_decide_eq_true (by kernel_rfl)) (by unfold Func.isWrapper; first | (rw [if_pos (by decide +kernel)]; kernel_rfl) | (rw [if_neg (by decide +kernel)]; exact ⟨rfl, rfl⟩))
    (fun os started H enc _ => masterJoins_lifted os started H enc)
end Go.Proofs.YtfcefidmdijjkaaGreat
