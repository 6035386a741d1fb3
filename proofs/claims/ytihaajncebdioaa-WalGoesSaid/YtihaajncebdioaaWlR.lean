/-
  Proved: for every input, causewaylaw8.WalGoes returns true and its arguments read as they did. No condition.
-/
import Derived.Test.YtihaajncebdioaaQWc
import Derived.Test.YtihaajncebdioaaQWd
set_option linter.unusedVariables false
set_option linter.unusedSimpArgs false
namespace Go.Proofs.Ytihaajncebdioaa
open Go Go.Sl

set_option maxRecDepth 100000 in
theorem walGoes_lifted (os : Os) (started : os.Started) (H : Type) (enc : TypeId × Value → H) :
    ReturnsInHanded {} Try.checked os 3 .any (Rows.walGoesSpec.pre6 enc Try.prog Try.f3 Rows.walGoesRow.domain false) (Rows.walGoesSpec.post enc Try.prog Try.f3 false true false false) := by
  refine law_lifted (C := Try.checked) (tb := 4) Try.own started (by kernel_rfl) Try.func3
    (ChangeSpec.witness6 (enc := enc) (C := Try.checked) false ⟨#[], #[.slice none 0 0, .slice none 0 0], []⟩ 8 (by kernel_rfl) (by kernel_rfl) (by kernel_rfl) (by kernel_rfl))
    Try.laidOut (by kernel_rfl) rfl Try.underlying4 rfl (fun ds hd => match ds, hd with | [_, _], _ => ⟨rfl, rfl, rfl⟩) ?_
  intro W base args ds p hval0 hA0 hwt0
  have hval : ∀ (j : Nat) t v, Try.f3.params[j]? = some t → args[j]? = some v → Value.okWide Try.prog W .any base t v := hval0
  have hA : DataW.TrodAll enc Try.prog W 0 (fun _ => true) true Try.f3.params.toList args.toList ds p := hA0
  have hwt : ∀ l ∈ DataW.weightsEach Try.prog Try.f3.params.toList ds, l ≤ reachBytes := hwt0
  clear hval0 hA0 hwt0
  rw [Try.params3] at hA hval hwt
  obtain ⟨v0, v1, d0, d1, p0, p1, rfl, rfl, rfl, h0, h1⟩ := ChangeShapes.trodAll_two hA
  obtain ⟨xs, hx, hxz, hxl⟩ := arg_slice (by kernel_rfl) rd_rec (hval 0 22 v0 rfl rfl) h0 (weights_each hwt (i := 0) rfl rfl)
  obtain ⟨ys, hy, hyz, hyl⟩ := arg_slice (by kernel_rfl) rd_rec (hval 1 22 v1 rfl rfl) h1 (weights_each hwt (i := 1) rfl rfl)
  exact law_calls (wgoes_ct hx.rs hy.rs (recs_in hxl) (recs_in hyl) hxz hyz)

theorem walGoes_holds : Rows.WalGoesSaid :=
  OpenClaim.holds_of_wide 3 Try.f3 rfl rfl rfl rfl rfl rfl rfl ⟨rfl, rfl, rfl, rfl, rfl⟩ rfl rfl rfl rfl rfl (by kernel_rfl) Try.func3 (by kernel_rfl)
    (of_decide_eq_true (by kernel_rfl)) (by unfold Func.isWrapper; first | (rw [if_pos (by decide +kernel)]; kernel_rfl) | (rw [if_neg (by decide +kernel)]; exact ⟨rfl, rfl⟩))
    (fun os started H enc _ => walGoes_lifted os started H enc)
end Go.Proofs.Ytihaajncebdioaa
