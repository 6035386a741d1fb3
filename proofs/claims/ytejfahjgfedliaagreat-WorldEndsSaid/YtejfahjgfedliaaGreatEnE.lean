/-
  Proved: for every input, causewaylaw16.WorldEnds returns true and its arguments read as they did. No condition.
-/
import Derived.Test.YtejfahjgfedliaaGreatQEf
import Derived.Test.YtejfahjgfedliaaGreatQEd
set_option linter.unusedVariables false
set_option linter.unusedSimpArgs false
namespace Go.Proofs.YtejfahjgfedliaaGreat
open Go Go.Sl

set_option maxRecDepth 100000 in
theorem worldEnds_lifted (os : Os) (started : os.Started) (H : Type) (enc : TypeId × Value → H) :
    ReturnsInHanded {} Tryz.checked os 9 .any (Rows.worldEndsSpec.pre6 enc Tryz.prog Tryz.f9 Rows.worldEndsRow.domain false) (Rows.worldEndsSpec.post enc Tryz.prog Tryz.f9 false true false false) := by
  refine law_lifted (C := Tryz.checked) (tb := 4) Tryz.own started (by kernel_rfl) Tryz.func9
    (ChangeSpec.witness6 (enc := enc) (C := Tryz.checked) false ⟨#[], #[.int .i64 0, .slice none 0 0], []⟩ 8 (by kernel_rfl) (by kernel_rfl) (by kernel_rfl) (by kernel_rfl))
    Tryz.laidOut (by kernel_rfl) rfl Tryz.underlying4 rfl (fun ds hd => match ds, hd with | [_, _], _ => ⟨rfl, rfl, rfl⟩) ?_
  intro W base args ds p hval0 hA0 hwt0
  have hval : ∀ (j : Nat) t v, Tryz.f9.params[j]? = some t → args[j]? = some v → Value.okWide Tryz.prog W .any base t v := hval0
  have hA : DataW.TrodAll enc Tryz.prog W 0 (fun _ => true) true Tryz.f9.params.toList args.toList ds p := hA0
  have hwt : ∀ l ∈ DataW.weightsEach Tryz.prog Tryz.f9.params.toList ds, l ≤ reachBytes := hwt0
  clear hval0 hA0 hwt0
  rw [Tryz.params9] at hA hval hwt
  obtain ⟨v0, v1, d0, d1, p0, p1, rfl, rfl, rfl, h0, h1⟩ := ChangeShapes.trodAll_two hA
  obtain ⟨n, rfl, _⟩ := arg_int (hval 0 3 v0 rfl rfl) h0
  obtain ⟨xs, hx, hxz, hxl⟩ := arg_slice (by kernel_rfl) rd_dd (hval 1 63 v1 rfl rfl) h1 (weights_each hwt (i := 1) rfl rfl)
  exact law_calls (ends_ct n hx.rs hxz)

theorem worldEnds_holds : Rows.WorldEndsSaid :=
  OpenClaim.holds_of_wide 9 Tryz.f9 rfl rfl rfl rfl rfl rfl rfl ⟨rfl, rfl, rfl, rfl, rfl⟩ rfl rfl rfl rfl rfl (by kernel_rfl) Tryz.func9 (by kernel_rfl)
    (of_decide_eq_true (by kernel_rfl)) (by unfold Func.isWrapper; first | (rw [if_pos (by decide +kernel)]; kernel_rfl) | (rw [if_neg (by decide +kernel)]; exact ⟨rfl, rfl⟩))
    (fun os started H enc _ => worldEnds_lifted os started H enc)
end Go.Proofs.YtejfahjgfedliaaGreat
