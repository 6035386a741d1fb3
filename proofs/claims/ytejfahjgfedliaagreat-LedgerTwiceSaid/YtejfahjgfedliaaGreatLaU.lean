/-
  Proved: for every input, causewaylaw16.LedgerTwice returns true and its arguments read as they did. No condition.
-/
import Derived.Test.YtejfahjgfedliaaGreatQKg
import Derived.Test.YtejfahjgfedliaaGreatQKd
set_option linter.unusedVariables false
set_option linter.unusedSimpArgs false
namespace Go.Proofs.YtejfahjgfedliaaGreat
open Go Go.Sl

set_option maxRecDepth 100000 in
theorem ledgerTwice_lifted (os : Os) (started : os.Started) (H : Type) (enc : TypeId × Value → H) :
    ReturnsInHanded {} Tryz.checked os 5 .any (Rows.ledgerTwiceSpec.pre6 enc Tryz.prog Tryz.f5 Rows.ledgerTwiceRow.domain false) (Rows.ledgerTwiceSpec.post enc Tryz.prog Tryz.f5 false true false false) := by
  refine law_lifted (C := Tryz.checked) (tb := 4) Tryz.own started (by kernel_rfl) Tryz.func5
    (ChangeSpec.witness6 (enc := enc) (C := Tryz.checked) false ⟨#[], #[.int .i64 0, .int .i64 0, .int .i64 0, .slice none 0 0, .int .i64 0], []⟩ 8 (by kernel_rfl) (by kernel_rfl) (by kernel_rfl) (by kernel_rfl))
    Tryz.laidOut (by kernel_rfl) rfl Tryz.underlying4 rfl (fun ds hd => match ds, hd with | [_, _, _, _, _], _ => ⟨rfl, rfl, rfl⟩) ?_
  intro W base args ds p hval0 hA0 hwt0
  have hval : ∀ (j : Nat) t v, Tryz.f5.params[j]? = some t → args[j]? = some v → Value.okWide Tryz.prog W .any base t v := hval0
  have hA : DataW.TrodAll enc Tryz.prog W 0 (fun _ => true) true Tryz.f5.params.toList args.toList ds p := hA0
  have hwt : ∀ l ∈ DataW.weightsEach Tryz.prog Tryz.f5.params.toList ds, l ≤ reachBytes := hwt0
  clear hval0 hA0 hwt0
  rw [Tryz.params5] at hA hval hwt
  obtain ⟨v0, v1, v2, v3, v4, d0, d1, d2, d3, d4, rfl, rfl, ⟨p0, h0⟩, ⟨p1, h1⟩, ⟨p2, h2⟩, ⟨p3, h3⟩, ⟨p4, h4⟩⟩ := trod5 hA
  obtain ⟨dc, rfl, _⟩ := arg_int (hval 0 3 v0 rfl rfl) h0
  obtain ⟨rg, rfl, _⟩ := arg_int (hval 1 3 v1 rfl rfl) h1
  obtain ⟨nd, rfl, _⟩ := arg_int (hval 2 3 v2 rfl rfl) h2
  obtain ⟨xs, hx, hxz, hxl⟩ := arg_slice (by kernel_rfl) rd_la (hval 3 22 v3 rfl rfl) h3 (weights_each hwt (i := 3) rfl rfl)
  obtain ⟨kp, rfl, ik⟩ := arg_int (hval 4 3 v4 rfl rfl) h4
  exact law_calls (ltwice_ct dc rg nd ik.1 ik.2 hx.rs (las_in hxl) hxz)

theorem ledgerTwice_holds : Rows.LedgerTwiceSaid :=
  OpenClaim.holds_of_wide 5 Tryz.f5 rfl rfl rfl rfl rfl rfl rfl ⟨rfl, rfl, rfl, rfl, rfl⟩ rfl rfl rfl rfl rfl (by kernel_rfl) Tryz.func5 (by kernel_rfl)
    (of_decide_eq_true (by kernel_rfl)) (by unfold Func.isWrapper; first | (rw [if_pos (by decide +kernel)]; kernel_rfl) | (rw [if_neg (by decide +kernel)]; exact ⟨rfl, rfl⟩))
    (fun os started H enc _ => ledgerTwice_lifted os started H enc)
end Go.Proofs.YtejfahjgfedliaaGreat
