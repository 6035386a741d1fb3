/-
  Proved: for every input, causewaylaw8.WalKeeps returns true and its arguments read as they did. No condition.
-/
import Derived.Test.YtihaajncebdioaaQWc
import Derived.Test.YtihaajncebdioaaQWd
set_option linter.unusedVariables false
set_option linter.unusedSimpArgs false
namespace Go.Proofs.Ytihaajncebdioaa
open Go Go.Sl

set_option maxRecDepth 100000 in
theorem walKeeps_lifted (os : Os) (started : os.Started) (H : Type) (enc : TypeId × Value → H) :
    ReturnsInHanded {} Try.checked os 5 .any (Rows.walKeepsSpec.pre6 enc Try.prog Try.f5 Rows.walKeepsRow.domain false) (Rows.walKeepsSpec.post enc Try.prog Try.f5 false true false false) := by
  refine law_lifted (C := Try.checked) (tb := 4) Try.own started (by kernel_rfl) Try.func5
    (ChangeSpec.witness6 (enc := enc) (C := Try.checked) false ⟨#[], #[.slice none 0 0, .int .i64 0], []⟩ 8 (by kernel_rfl) (by kernel_rfl) (by kernel_rfl) (by kernel_rfl))
    Try.laidOut (by kernel_rfl) rfl Try.underlying4 rfl (fun ds hd => match ds, hd with | [_, _], _ => ⟨rfl, rfl, rfl⟩) ?_
  intro W base args ds p hval0 hA0 hwt0
  have hval : ∀ (j : Nat) t v, Try.f5.params[j]? = some t → args[j]? = some v → Value.okWide Try.prog W .any base t v := hval0
  have hA : DataW.TrodAll enc Try.prog W 0 (fun _ => true) true Try.f5.params.toList args.toList ds p := hA0
  have hwt : ∀ l ∈ DataW.weightsEach Try.prog Try.f5.params.toList ds, l ≤ reachBytes := hwt0
  clear hval0 hA0 hwt0
  rw [Try.params5] at hA hval hwt
  obtain ⟨v0, v1, d0, d1, p0, p1, rfl, rfl, rfl, h0, h1⟩ := ChangeShapes.trodAll_two hA
  obtain ⟨avs, hx, hxz, hxl⟩ := arg_slice (by kernel_rfl) rd_av (hval 0 27 v0 rfl rfl) h0 (weights_each hwt (i := 0) rfl rfl)
  obtain ⟨n, rfl, hn⟩ := arg_int (hval 1 3 v1 rfl rfl) h1
  obtain ⟨rss, hl, hrs⟩ := acts_rss hxz
  exact law_calls (wkeeps_ct hx.rs hl (avs_in hxl) (fun i a rs h1 h2 => by
    obtain ⟨g1, g2, g3⟩ := hrs i a rs h1 h2
    exact ⟨g1.rs, g2, g3⟩) hn.1 hn.2)

theorem walKeeps_holds : Rows.WalKeepsSaid :=
  OpenClaim.holds_of_wide 5 Try.f5 rfl rfl rfl rfl rfl rfl rfl ⟨rfl, rfl, rfl, rfl, rfl⟩ rfl rfl rfl rfl rfl (by kernel_rfl) Try.func5 (by kernel_rfl)
    (of_decide_eq_true (by kernel_rfl)) (by unfold Func.isWrapper; first | (rw [if_pos (by decide +kernel)]; kernel_rfl) | (rw [if_neg (by decide +kernel)]; exact ⟨rfl, rfl⟩))
    (fun os started H enc _ => walKeeps_lifted os started H enc)
end Go.Proofs.Ytihaajncebdioaa
