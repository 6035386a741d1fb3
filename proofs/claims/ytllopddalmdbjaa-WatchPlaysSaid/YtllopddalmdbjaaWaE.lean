/-
  Proved: for every input, causewaylaw13.WatchSince returns true and its arguments read as they did. No condition.
-/
import Derived.Test.YtllopddalmdbjaaWaD
import Derived.Test.YtllopddalmdbjaaSlT
import Derived.Test.YtllopddalmdbjaaRows
set_option linter.unusedVariables false
set_option linter.unusedSimpArgs false
namespace Go.Proofs.Ytllopddalmdbjaa
open Go Go.Sl

theorem Try.own : ownKnob Try.prog.godebug = none := by kernel_rfl
theorem Try.laidOut : laidOutB Try.prog = true := by kernel_rfl

/-- A step of the input, as what reads at its type. -/
def IActOk (w : World) (a : IAct) : Prop := RsW w a.heard (.slice a.p a.heard.length a.c) ∧ a.heard.length * 8 ≤ reachBytes
set_option maxRecDepth 100000 in
theorem rd_act : RdOk Try.prog 31 IAct IActOk := by
  intro H enc w fuel cs x h hwt
  obtain ⟨y0, y1, n, rfl, hl, h0, h1⟩ := ChangeShapes.trod_struct2 Try.underlying31 h
  have hsz : Try.prog.cellsOf 31 = 2 := by kernel_rfl
  have hb1 : Try.prog.cellsOf 4 = 1 := by kernel_rfl
  have hi1 : Try.prog.cellsOf 23 = 1 := by kernel_rfl
  rw [hsz] at hl
  match cs, hl with
  | [c0, c1], _ =>
    simp only [hb1, hi1, List.drop_zero, List.take_succ_cons, List.take_zero, List.drop_succ_cons] at h0 h1
    simp only [DataW.weights, Try.underlying31] at hwt
    have w0 : ∀ l ∈ y0.1.weights Try.prog 4, l ≤ reachBytes := weights_each hwt (i := 0) rfl rfl
    have w1 : ∀ l ∈ y1.1.weights Try.prog 23, l ≤ reachBytes := weights_each hwt (i := 1) rfl rfl
    obtain ⟨b, hb, _⟩ := rd_bool (P := Try.prog) H enc w n _ y0 h0 w0
    obtain ⟨xs, hx, _, hxl⟩ := rd_slice (P := Try.prog) (e := 3) (α := Int) (by kernel_rfl) rd_int h1 w1
    have hxl' : xs.length * 8 ≤ reachBytes := by
      rw [show Try.prog.bytesOf 3 = 8 by kernel_rfl] at hxl; exact hxl
    obtain ⟨p, c, rfl, _⟩ := id hx
    cases hb
    exact ⟨⟨b, p, c, xs⟩, rfl, hx, hxl'⟩

theorem acts_in {W : World} {acts : List IAct} {v : Value} (h : RsW W acts v) (k : ∀ a ∈ acts, IActOk W a) (hl : acts.length * 32 ≤ reachBytes) : ActsIn acts v (initHp W) := by
  refine ⟨h.rs, fun a ha => (k a ha).1.rs, ?_, fun a ha => ?_⟩
  · unfold reachBytes at hl; omega
  · have := (k a ha).2; unfold reachBytes at this; omega

set_option maxRecDepth 100000 in
theorem since_lifted (os : Os) (started : os.Started) (H : Type) (enc : TypeId × Value → H) :
    ReturnsInHanded {} Try.checked os 4 .any (Rows.watchSinceSpec.pre6 enc Try.prog Try.f4 Rows.watchSinceRow.domain false) (Rows.watchSinceSpec.post enc Try.prog Try.f4 false true false false) := by
  refine law_lifted (C := Try.checked) (tb := 4) Try.own started (by kernel_rfl) Try.func4
    (ChangeSpec.witness6 (enc := enc) (C := Try.checked) false ⟨#[], #[.int .i64 0, .slice none 0 0, .int .i64 0], []⟩ 8 (by kernel_rfl) (by kernel_rfl) (by kernel_rfl) (by kernel_rfl))
    Try.laidOut (by kernel_rfl) rfl Try.underlying4 rfl (fun ds hd => match ds, hd with | [_, _, _], _ => ⟨rfl, rfl, rfl⟩) ?_
  intro W base args ds p hval0 hA0 hwt0
  have hval : ∀ (j : Nat) t v, Try.f4.params[j]? = some t → args[j]? = some v → Value.okWide Try.prog W .any base t v := hval0
  have hA : DataW.TrodAll enc Try.prog W 0 (fun _ => true) true Try.f4.params.toList args.toList ds p := hA0
  have hwt : ∀ l ∈ DataW.weightsEach Try.prog Try.f4.params.toList ds, l ≤ reachBytes := hwt0
  clear hval0 hA0 hwt0
  rw [Try.params4] at hA hval hwt
  obtain ⟨v0, v1, v2, d0, d1, d2, p0, p1, p2, rfl, rfl, rfl, h0, h1, h2⟩ := ChangeShapes.trodAll_three hA
  obtain ⟨n, rfl, _⟩ := arg_int (hval 0 3 v0 rfl rfl) h0
  obtain ⟨i, rfl, _⟩ := arg_int (hval 2 3 v2 rfl rfl) h2
  obtain ⟨acts, ha, hk, hl⟩ := arg_slice (by kernel_rfl) rd_act (hval 1 22 v1 rfl rfl) h1 (weights_each hwt (i := 1) rfl rfl)
  have hl' : acts.length * 32 ≤ reachBytes := by
    rw [show Try.prog.bytesOf 31 = 32 by kernel_rfl] at hl; exact hl
  exact law_calls (since_ct (acts_in ha hk hl') n i)

theorem since_holds : Rows.WatchSinceSaid :=
  OpenClaim.holds_of_wide 4 Try.f4 rfl rfl rfl rfl rfl rfl rfl ⟨rfl, rfl, rfl, rfl, rfl⟩ rfl rfl rfl rfl rfl (by kernel_rfl) Try.func4 (by kernel_rfl)
    (of_decide_eq_true (by kernel_rfl)) (by unfold Func.isWrapper; first | (rw [if_pos (by decide +kernel)]; kernel_rfl) | (rw [if_neg (by decide +kernel)]; exact ⟨rfl, rfl⟩))
    (fun os started H enc _ => since_lifted os started H enc)
end Go.Proofs.Ytllopddalmdbjaa
