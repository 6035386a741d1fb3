/-
  Proved: for every input, causewaylaw14.MasterSilent returns true and its arguments read as they did. No condition.
-/
import Derived.Test.YtfcefidmdijjkaaQMf
import Derived.Test.YtfcefidmdijjkaaQMe
set_option linter.unusedVariables false
set_option linter.unusedSimpArgs false
namespace Go.Proofs.Ytfcefidmdijjkaa
open Go Go.Sl

set_option maxRecDepth 100000 in
theorem masterSilent_lifted (os : Os) (started : os.Started) (H : Type) (enc : TypeId × Value → H) :
    ReturnsInHanded {} Try.checked os 4 .any (Rows.masterSilentSpec.pre6 enc Try.prog Try.f4 Rows.masterSilentRow.domain false) (Rows.masterSilentSpec.post enc Try.prog Try.f4 false true false false) := by
  refine law_lifted (C := Try.checked) (tb := 4) Try.own started (by kernel_rfl) Try.func4
    (ChangeSpec.witness6 (enc := enc) (C := Try.checked) false ⟨#[], #[.agg #[.int .i64 0, .int .i64 0, .int .i64 0, .int .i64 0], .int .i64 0, .int .i64 0], []⟩ 8 (by kernel_rfl) (by kernel_rfl) (by kernel_rfl) (by kernel_rfl))
    Try.laidOut (by kernel_rfl) rfl Try.underlying4 rfl (fun ds hd => match ds, hd with | [_, _, _], _ => ⟨rfl, rfl, rfl⟩) ?_
  intro W base args ds p hval0 hA0 hwt0
  have hval : ∀ (j : Nat) t v, Try.f4.params[j]? = some t → args[j]? = some v → Value.okWide Try.prog W .any base t v := hval0
  have hA : DataW.TrodAll enc Try.prog W 0 (fun _ => true) true Try.f4.params.toList args.toList ds p := hA0
  have hwt : ∀ l ∈ DataW.weightsEach Try.prog Try.f4.params.toList ds, l ≤ reachBytes := hwt0
  clear hval0 hA0 hwt0
  rw [Try.params4] at hA hval hwt
  obtain ⟨v0, v1, v2, d0, d1, d2, p0, p1, p2, rfl, rfl, rfl, h0, h1, h2⟩ := ChangeShapes.trodAll_three hA
  obtain ⟨l, rfl, hl, _⟩ := arg_struct 0 rd_lay (hval 0 23 v0 rfl rfl) h0 (weights_each hwt (i := 0) rfl rfl)
  obtain ⟨a, rfl, _⟩ := arg_int (hval 1 3 v1 rfl rfl) h1
  obtain ⟨b, rfl, _⟩ := arg_int (hval 2 3 v2 rfl rfl) h2
  exact law_calls ((msilent_ct hl a b).frame (F := [initHp W]) (fun v H' ⟨e1, e2⟩ => ⟨e1, by rw [e2]; rfl⟩))

theorem masterSilent_holds : Rows.MasterSilentSaid :=
  OpenClaim.holds_of_wide 4 Try.f4 rfl rfl rfl rfl rfl rfl rfl ⟨rfl, rfl, rfl, rfl, rfl⟩ rfl rfl rfl rfl rfl (by kernel_rfl) Try.func4 (by kernel_rfl)
    (of_decide_eq_true (by kernel_rfl)) (by unfold Func.isWrapper; first | (rw [if_pos (by decide +kernel)]; kernel_rfl) | (rw [if_neg (by decide +kernel)]; exact ⟨rfl, rfl⟩))
    (fun os started H enc _ => masterSilent_lifted os started H enc)
end Go.Proofs.Ytfcefidmdijjkaa
