/-
  The network's acts, as what the inputs read as.
-/
import Derived.Test.YtllopddalmdbjaaNeI
import Derived.Test.YtllopddalmdbjaaSlU
import Derived.Test.YtllopddalmdbjaaOwn
set_option linter.unusedVariables false
set_option linter.unusedSimpArgs false
namespace Go.Proofs.Ytllopddalmdbjaa
open Go Go.Sl

def NActOk (w : World) (a : NAct) : Prop := RsW w a.b (.slice a.p a.b.length a.c) ∧ a.b.length ≤ reachBytes
set_option maxRecDepth 100000 in
theorem rd_nact : RdOk Try.prog 68 NAct NActOk := rd_of fun H enc w cs h => by
  have hl := h.len (i := 0)
  match cs, hl with
  | [c0, c1, c2, c3, c4, c5, c6, c7, c8, c9, c10, c11], _ =>
    obtain ⟨n0, e0, _⟩ := (h.field 0).int
    obtain ⟨n1, e1, _⟩ := (h.field 1).int
    obtain ⟨n2, e2, _⟩ := (h.field 2).int
    obtain ⟨n3, e3, _⟩ := ((h.field 3).field 0).int
    obtain ⟨n4, e4, _⟩ := ((h.field 3).field 1).int
    obtain ⟨n5, e5, _⟩ := ((h.field 3).field 2).int
    obtain ⟨n6, e6, _⟩ := ((h.field 3).field 3).int
    obtain ⟨n7, e7, _⟩ := ((h.field 4).field 0).int
    obtain ⟨n8, e8, _⟩ := ((h.field 4).field 1).int
    obtain ⟨n9, e9, _⟩ := ((h.field 4).field 2).int
    obtain ⟨n10, e10, _⟩ := ((h.field 4).field 3).int
    have hb : StOk enc Try.prog w 66 [c11] := h.field 5
    cases e0; cases e1; cases e2; cases e3; cases e4; cases e5; cases e6; cases e7; cases e8; cases e9; cases e10
    obtain ⟨xs, hx, _, hxl⟩ := hb.slice (e := 5) (α := UInt8) (by kernel_rfl) rd_u8
    have hxl' : xs.length * 1 ≤ reachBytes := by
      rw [show Try.prog.bytesOf 5 = 1 by kernel_rfl] at hxl; exact hxl
    obtain ⟨p, c, rfl, _⟩ := id hx
    exact ⟨⟨n0, n1, n2, ⟨n3, n4, n5, n6⟩, ⟨n7, n8, n9, n10⟩, xs, p, c⟩, rfl, hx, by simpa using hxl'⟩

theorem nacts_in {W : World} {acts : List NAct} {v : Value} (h : RsW W acts v) (k : ∀ a ∈ acts, NActOk W a) (hl : acts.length * Try.prog.bytesOf 68 ≤ reachBytes) : NIns acts v (initHp W) := by
  rw [show Try.prog.bytesOf 68 = 112 by kernel_rfl] at hl
  refine ⟨⟨h.rs, ?_, fun a ha => ?_⟩, fun a ha => (k a ha).1.rs⟩
  · unfold reachBytes at hl; omega
  · have := (k a ha).2; unfold reachBytes at this; omega

end Go.Proofs.Ytllopddalmdbjaa
