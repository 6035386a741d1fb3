/-
  Proved: for every input, causewaylaw14.MasterPlays returns true and its arguments read as they did. No condition.
-/
import Derived.Test.YtfcefidmdijjkaaGreatQMPg
import Derived.Test.YtfcefidmdijjkaaGreatQMPf
import Derived.Test.YtfcefidmdijjkaaGreatQMPd
set_option linter.unusedVariables false
set_option linter.unusedSimpArgs false
namespace Go.Proofs.YtfcefidmdijjkaaGreat
open Go Go.Sl

theorem mact_in {n : Nat} (hl : n * Tryz.prog.bytesOf 56 ≤ reachBytes) : n ≤ 1099511627776 := by
  rw [show Tryz.prog.bytesOf 56 = 648 by kernel_rfl] at hl
  unfold reachBytes at hl; omega
set_option maxRecDepth 100000 in
theorem masterPlays_lifted (os : Os) (started : os.Started) (H : Type) (enc : TypeId × Value → H) :
    ReturnsInHanded {} Tryz.checked os 4 .any (Rows.masterPlaysSpec.pre6 enc Tryz.prog Tryz.f4 Rows.masterPlaysRow.domain false) (Rows.masterPlaysSpec.post enc Tryz.prog Tryz.f4 false true false false) := by
  refine law_lifted (C := Tryz.checked) (tb := 4) Tryz.own started (by kernel_rfl) Tryz.func4
    (ChangeSpec.witness6 (enc := enc) (C := Tryz.checked) false ⟨#[], #[.agg #[.int .i64 0, .int .i64 0, .int .i64 0, .int .i64 0], .int .i64 0, .slice none 0 0], []⟩ 8 (by kernel_rfl) (by kernel_rfl) (by kernel_rfl) (by kernel_rfl))
    Tryz.laidOut (by kernel_rfl) rfl Tryz.underlying4 rfl (fun ds hd => match ds, hd with | [_, _, _], _ => ⟨rfl, rfl, rfl⟩) ?_
  intro W base args ds p hval0 hA0 hwt0
  have hval : ∀ (j : Nat) t v, Tryz.f4.params[j]? = some t → args[j]? = some v → Value.okWide Tryz.prog W .any base t v := hval0
  have hA : DataW.TrodAll enc Tryz.prog W 0 (fun _ => true) true Tryz.f4.params.toList args.toList ds p := hA0
  have hwt : ∀ l ∈ DataW.weightsEach Tryz.prog Tryz.f4.params.toList ds, l ≤ reachBytes := hwt0
  clear hval0 hA0 hwt0
  rw [Tryz.params4] at hA hval hwt
  obtain ⟨v0, v1, v2, d0, d1, d2, p0, p1, p2, rfl, rfl, rfl, h0, h1, h2⟩ := ChangeShapes.trodAll_three hA
  obtain ⟨l, rfl, hl, _⟩ := arg_struct 0 rd_lay (hval 0 23 v0 rfl rfl) h0 (weights_each hwt (i := 0) rfl rfl)
  obtain ⟨dc, rfl, _⟩ := arg_int (hval 1 3 v1 rfl rfl) h1
  obtain ⟨xs, hx, hxz, hxl⟩ := arg_slice (by kernel_rfl) rd_ac (hval 2 24 v2 rfl rfl) h2 (weights_each hwt (i := 2) rfl rfl)
  exact law_calls (mplays_ct hl hx.rs (mact_in hxl))

theorem masterPlays_holds : Rows.MasterPlaysSaid :=
  OpenClaim.holds_of_wide 4 Tryz.f4 rfl rfl rfl rfl rfl rfl rfl ⟨rfl, rfl, rfl, rfl, rfl⟩ rfl rfl rfl rfl rfl (by kernel_rfl) Tryz.func4 (by kernel_rfl)
    (of_decide_eq_true (by kernel_rfl)) (by unfold Func.isWrapper; first | (rw [if_pos (by decide +kernel)]; kernel_rfl) | (rw [if_neg (by decide +kernel)]; exact ⟨rfl, rfl⟩))
    (fun os started H enc _ => masterPlays_lifted os started H enc)
end Go.Proofs.YtfcefidmdijjkaaGreat
