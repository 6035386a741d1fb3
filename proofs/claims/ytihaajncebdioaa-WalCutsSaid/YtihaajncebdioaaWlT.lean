/-
  Proved: for every input, causewaylaw8.WalCuts returns true and its arguments read as they did. No condition.
-/
import Derived.Test.YtihaajncebdioaaQWc
import Derived.Test.YtihaajncebdioaaQWd
set_option linter.unusedVariables false
set_option linter.unusedSimpArgs false
namespace Go.Proofs.Ytihaajncebdioaa
open Go Go.Sl

set_option maxRecDepth 100000 in
theorem walCuts_lifted (os : Os) (started : os.Started) (H : Type) (enc : TypeId × Value → H) :
    ReturnsInHanded {} Try.checked os 6 .any (Rows.walCutsSpec.pre6 enc Try.prog Try.f6 Rows.walCutsRow.domain false) (Rows.walCutsSpec.post enc Try.prog Try.f6 false true false false) := by
  refine law_lifted (C := Try.checked) (tb := 4) Try.own started (by kernel_rfl) Try.func6
    (ChangeSpec.witness6 (enc := enc) (C := Try.checked) false ⟨#[], #[.slice none 0 0, .slice none 0 0], []⟩ 8 (by kernel_rfl) (by kernel_rfl) (by kernel_rfl) (by kernel_rfl))
    Try.laidOut (by kernel_rfl) rfl Try.underlying4 rfl (fun ds hd => match ds, hd with | [_, _], _ => ⟨rfl, rfl, rfl⟩) ?_
  intro W base args ds p hval0 hA0 hwt0
  have hval : ∀ (j : Nat) t v, Try.f6.params[j]? = some t → args[j]? = some v → Value.okWide Try.prog W .any base t v := hval0
  have hA : DataW.TrodAll enc Try.prog W 0 (fun _ => true) true Try.f6.params.toList args.toList ds p := hA0
  have hwt : ∀ l ∈ DataW.weightsEach Try.prog Try.f6.params.toList ds, l ≤ reachBytes := hwt0
  clear hval0 hA0 hwt0
  rw [Try.params6] at hA hval hwt
  obtain ⟨v0, v1, d0, d1, p0, p1, rfl, rfl, rfl, h0, h1⟩ := ChangeShapes.trodAll_two hA
  obtain ⟨xs, hx, hxz, hxl⟩ := arg_slice (by kernel_rfl) rd_rec (hval 0 22 v0 rfl rfl) h0 (weights_each hwt (i := 0) rfl rfl)
  obtain ⟨ys, hy, hyz, hyl⟩ := arg_slice (by kernel_rfl) rd_rec (hval 1 22 v1 rfl rfl) h1 (weights_each hwt (i := 1) rfl rfl)
  exact law_calls (wcuts_ct hx.rs hy.rs (recs_in hxl) (recs_in hyl) hxz hyz)

theorem walCuts_holds : Rows.WalCutsSaid :=
  OpenClaim.holds_of_wide 6 Try.f6 rfl rfl rfl rfl rfl rfl rfl ⟨rfl, rfl, rfl, rfl, rfl⟩ rfl rfl rfl rfl rfl (by kernel_rfl) Try.func6 (by kernel_rfl)
    (of_decide_eq_true (by kernel_rfl)) (by unfold Func.isWrapper; first | (rw [if_pos (by decide +kernel)]; kernel_rfl) | (rw [if_neg (by decide +kernel)]; exact ⟨rfl, rfl⟩))
    (fun os started H enc _ => walCuts_lifted os started H enc)
end Go.Proofs.Ytihaajncebdioaa
