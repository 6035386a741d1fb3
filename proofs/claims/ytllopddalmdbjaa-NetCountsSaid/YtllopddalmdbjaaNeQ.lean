/-
  Proved: for every input, causewaylaw10.NetCounts returns true and its arguments read as they did. No condition.
-/
import Derived.Test.YtllopddalmdbjaaNeK
import Derived.Test.YtllopddalmdbjaaNeO
set_option linter.unusedVariables false
set_option linter.unusedSimpArgs false
namespace Go.Proofs.Ytllopddalmdbjaa
open Go Go.Sl

set_option maxRecDepth 100000 in
theorem netCounts_lifted (os : Os) (started : os.Started) (H : Type) (enc : TypeId × Value → H) :
    ReturnsInHanded {} Try.checked os 11 .any (Rows.netCountsSpec.pre6 enc Try.prog Try.f11 Rows.netCountsRow.domain false) (Rows.netCountsSpec.post enc Try.prog Try.f11 false true false false) := by
  refine law_lifted (C := Try.checked) (tb := 4) Try.own started (by kernel_rfl) Try.func11
    (ChangeSpec.witness6 (enc := enc) (C := Try.checked) false ⟨#[], #[.slice none 0 0, .agg #[.int .i64 0, .int .i64 0, .int .i64 0, .int .i64 0, .int .i64 0, .int .i64 0, .int .i64 0, .int .i64 0, .int .i64 0, .int .i64 0, .int .i64 0, .slice none 0 0]], []⟩ 8 (by kernel_rfl) (by kernel_rfl) (by kernel_rfl) (by kernel_rfl))
    Try.laidOut (by kernel_rfl) rfl Try.underlying4 rfl (fun ds hd => match ds, hd with | [_, _], _ => ⟨rfl, rfl, rfl⟩) ?_
  intro W base args ds p hval0 hA0 hwt0
  have hval : ∀ (j : Nat) t v, Try.f11.params[j]? = some t → args[j]? = some v → Value.okWide Try.prog W .any base t v := hval0
  have hA : DataW.TrodAll enc Try.prog W 0 (fun _ => true) true Try.f11.params.toList args.toList ds p := hA0
  have hwt : ∀ l ∈ DataW.weightsEach Try.prog Try.f11.params.toList ds, l ≤ reachBytes := hwt0
  clear hval0 hA0 hwt0
  rw [Try.params11] at hA hval hwt
  obtain ⟨v0, v1, d0, d1, p0, p1, rfl, rfl, rfl, h0, h1⟩ := ChangeShapes.trodAll_two hA
  obtain ⟨acts, ha, hk, hl⟩ := arg_slice (by kernel_rfl) rd_nact (hval 0 58 v0 rfl rfl) h0 (weights_each hwt (i := 0) rfl rfl)
  obtain ⟨last, rfl, hl1, hl2⟩ := arg_struct 0 rd_nact (hval 1 68 v1 rfl rfl) h1 (weights_each hwt (i := 1) rfl rfl)
  exact law_calls (ncounts_ct (nacts_in ha hk hl) hl1.rs (by unfold reachBytes at hl2; omega))

theorem netCounts_holds : Rows.NetCountsSaid :=
  OpenClaim.holds_of_wide 11 Try.f11 rfl rfl rfl rfl rfl rfl rfl ⟨rfl, rfl, rfl, rfl, rfl⟩ rfl rfl rfl rfl rfl (by kernel_rfl) Try.func11 (by kernel_rfl)
    (of_decide_eq_true (by kernel_rfl)) (by unfold Func.isWrapper; first | (rw [if_pos (by decide +kernel)]; kernel_rfl) | (rw [if_neg (by decide +kernel)]; exact ⟨rfl, rfl⟩))
    (fun os started H enc _ => netCounts_lifted os started H enc)
end Go.Proofs.Ytllopddalmdbjaa
