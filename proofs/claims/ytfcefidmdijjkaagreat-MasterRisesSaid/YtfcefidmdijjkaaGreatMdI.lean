/-
  Proved: for every input, causewaylaw14.MasterRises returns true and its arguments read as they did. No condition.
-/
import Derived.Test.YtfcefidmdijjkaaGreatQMPk
import Derived.Test.YtfcefidmdijjkaaGreatQMPf
import Derived.Test.YtfcefidmdijjkaaGreatQMPd
set_option linter.unusedVariables false
set_option linter.unusedSimpArgs false
namespace Go.Proofs.YtfcefidmdijjkaaGreat
open Go Go.Sl

theorem mact_in {n : Nat} (hl : n * Tryz.prog.bytesOf 56 ≤ reachBytes) : n ≤ 1099511627776 := by
  rw [show Tryz.prog.bytesOf 56 = 648 by kernel_rfl] at hl
  unfold reachBytes at hl; omega
set_option maxRecDepth 100000 in
theorem masterRises_lifted (os : Os) (started : os.Started) (H : Type) (enc : TypeId × Value → H) :
    ReturnsInHanded {} Tryz.checked os 3 .any (Rows.masterRisesSpec.pre6 enc Tryz.prog Tryz.f3 Rows.masterRisesRow.domain false) (Rows.masterRisesSpec.post enc Tryz.prog Tryz.f3 false true false false) := by
  refine law_lifted (C := Tryz.checked) (tb := 4) Tryz.own started (by kernel_rfl) Tryz.func3
    (ChangeSpec.witness6 (enc := enc) (C := Tryz.checked) false ⟨#[], #[.agg #[.int .i64 0, .int .i64 0, .int .i64 0, .int .i64 0], .slice none 0 0], []⟩ 8 (by kernel_rfl) (by kernel_rfl) (by kernel_rfl) (by kernel_rfl))
    Tryz.laidOut (by kernel_rfl) rfl Tryz.underlying4 rfl (fun ds hd => match ds, hd with | [_, _], _ => ⟨rfl, rfl, rfl⟩) ?_
  intro W base args ds p hval0 hA0 hwt0
  have hval : ∀ (j : Nat) t v, Tryz.f3.params[j]? = some t → args[j]? = some v → Value.okWide Tryz.prog W .any base t v := hval0
  have hA : DataW.TrodAll enc Tryz.prog W 0 (fun _ => true) true Tryz.f3.params.toList args.toList ds p := hA0
  have hwt : ∀ l ∈ DataW.weightsEach Tryz.prog Tryz.f3.params.toList ds, l ≤ reachBytes := hwt0
  clear hval0 hA0 hwt0
  rw [Tryz.params3] at hA hval hwt
  obtain ⟨v0, v1, d0, d1, p0, p1, rfl, rfl, rfl, h0, h1⟩ := ChangeShapes.trodAll_two hA
  obtain ⟨l, rfl, hl, _⟩ := arg_struct 0 rd_lay (hval 0 23 v0 rfl rfl) h0 (weights_each hwt (i := 0) rfl rfl)
  obtain ⟨xs, hx, hxz, hxl⟩ := arg_slice (by kernel_rfl) rd_ac (hval 1 24 v1 rfl rfl) h1 (weights_each hwt (i := 1) rfl rfl)
  exact law_calls (mrises_ct hl hx.rs (mact_in hxl))

theorem masterRises_holds : Rows.MasterRisesSaid :=
  OpenClaim.holds_of_wide 3 Tryz.f3 rfl rfl rfl rfl rfl rfl rfl ⟨rfl, rfl, rfl, rfl, rfl⟩ rfl rfl rfl rfl rfl (by kernel_rfl) Tryz.func3 (by kernel_rfl)
    (of_decide_eq_true (by kernel_rfl)) (by unfold Func.isWrapper; first | (rw [if_pos (by decide +kernel)]; kernel_rfl) | (rw [if_neg (by decide +kernel)]; exact ⟨rfl, rfl⟩))
    (fun os started H enc _ => masterRises_lifted os started H enc)
end Go.Proofs.YtfcefidmdijjkaaGreat
