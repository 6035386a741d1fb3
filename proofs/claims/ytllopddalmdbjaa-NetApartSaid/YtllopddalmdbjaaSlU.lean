/-
  What structs among the inputs read as, field by field.
-/
import Derived.Test.YtllopddalmdbjaaSlT
set_option linter.unusedVariables false
set_option linter.unusedSimpArgs false
namespace Go.Sl
open Go

section
variable {H : Type} {enc : TypeId × Value → H} {P : Program} {w : World} {t ft i off k : Nat} {ag : Bool} {cs : List Value} {v : Value}
/-- The cells read at the type, within what can be reached. -/
def StOk {H : Type} (enc : TypeId × Value → H) (P : Program) (w : World) (t : Nat) (cs : List Value) : Prop :=
  ∃ (fuel : Nat) (x : DataW H × List MemPlace), DataW.trod enc P w 0 (fun _ => true) true fuel t cs = some x ∧ ∀ l ∈ x.1.weights P t, l ≤ reachBytes
theorem TL.cellsOf (h : TL P t k ag) : P.cellsOf t = k := by
  obtain ⟨s, _⟩ := h
  unfold Program.cellsOf
  rw [s]; rfl
theorem StOk.len [ft' : TFt P t i off ft] [tl : TL P t k ag] (h : StOk enc P w t cs) : cs.length = k := by
  obtain ⟨fuel, x, hx, _⟩ := h
  obtain ⟨fs, fd, hu, _⟩ := ft'.h
  obtain ⟨xs, n, _, _, hl, _⟩ := DataW.trod_struct hu hx
  rw [hl, tl.cellsOf]
theorem StOk.field (i : Nat) [ft' : TFt P t i off ft] [tl : TL P ft k ag] (h : StOk enc P w t cs) : StOk enc P w ft ((cs.drop off).take k) := by
  obtain ⟨fuel, x, hx, hw⟩ := h
  obtain ⟨fs, fd, hu, hf, rfl, rfl⟩ := ft'.h
  obtain ⟨xs, n, _, rfl, hl, hlen, hfs⟩ := DataW.trod_struct hu hx
  have h1 := hfs i fd hf
  have hi : i < xs.length := by rw [hlen]; exact (Array.getElem?_eq_some_iff.1 hf).1
  rw [List.getElem?_eq_getElem hi, tl.cellsOf] at h1
  refine ⟨n, xs[i], h1, ?_⟩
  simp only [DataW.weights, hu] at hw
  exact weights_each hw (i := i) (by rw [List.getElem?_map, Array.getElem?_toList, hf]; rfl) (by rw [List.getElem?_map, List.getElem?_eq_getElem hi]; rfl)
theorem StOk.rd {α : Type} [Enc α] {I : World → α → Prop} (hr : RdOk P t α I) (h : StOk enc P w t cs) : ∃ y : α, cs = Enc.enc y ∧ I w y := by
  obtain ⟨fuel, x, hx, hw⟩ := h
  exact hr H enc w fuel cs x hx hw
theorem StOk.int [ht : TU P t (.int .i64)] (h : StOk enc P w t cs) : ∃ n, cs = [.int .i64 n] ∧ I64 n := h.rd rd_int
theorem StOk.bool [ht : TU P t .bool] (h : StOk enc P w t cs) : ∃ b, cs = [.bool b] := let ⟨b, h1, _⟩ := h.rd rd_bool; ⟨b, h1⟩
theorem StOk.slice {e : Nat} {α : Type} [E : Enc α] {I : World → α → Prop} [ht : TU P t (.slice e)] (hsz : P.cellsOf e = Enc.sz α) (he : RdOk P e α I) (h : StOk enc P w t [v]) :
    ∃ xs : List α, RsW w xs v ∧ (∀ y ∈ xs, I w y) ∧ xs.length * P.bytesOf e ≤ reachBytes := by
  obtain ⟨fuel, x, hx, hw⟩ := h
  exact rd_slice hsz he hx hw
theorem rd_of {α : Type} [Enc α] {I : World → α → Prop} (h : ∀ (H : Type) (enc : TypeId × Value → H) (w : World) (cs : List Value), StOk enc P w t cs → ∃ y : α, cs = Enc.enc y ∧ I w y) : RdOk P t α I :=
  fun H enc w fuel cs x hx hw => h H enc w cs ⟨fuel, x, hx, hw⟩
theorem rd_u8 [ht : TU P t (.int .u8)] : RdOk P t UInt8 (fun _ _ => True) := by
  intro H enc w fuel cs x h _
  obtain ⟨n, rfl, _, hw⟩ := DataW.trod_int ht.h h
  simp [Lit.wf, IntKind.min, IntKind.max, IntKind.signed, IntKind.bits] at hw
  refine ⟨UInt8.ofNat n.toNat, ?_, trivial⟩
  have h1 : n.toNat < 256 := by omega
  show _ = [Value.int .u8 ((UInt8.ofNat n.toNat).toNat : Int)]
  rw [UInt8.toNat_ofNat', Nat.mod_eq_of_lt (by simpa using h1), Int.toNat_of_nonneg hw.1]
end
section args
variable {H : Type} {enc : TypeId × Value → H} {P : Program} {W : World} {r : Reach} {base t i off ft : Nat} {v : Value} {d : DataW H} {p : List MemPlace}
theorem arg_struct {α : Type} [E : Enc α] {I : World → α → Prop} (i : Nat) [tf : TFt P t i off ft] (he : RdOk P t α I) (hv : Value.okWide P W r base t v) (h : DataW.Trod enc P W 0 (fun _ => true) true t v d p)
    (hwt : ∀ l ∈ d.weights P t, l ≤ reachBytes) : ∃ y : α, v = .agg (Enc.enc y).toArray ∧ I W y := by
  obtain ⟨fs, fd, hu, _⟩ := tf.h
  obtain ⟨cs, rfl, _⟩ := WideShapes.okWide_struct hu hv
  obtain ⟨fuel, hf⟩ := h
  obtain ⟨y, h1, h2⟩ := he H enc W fuel _ _ hf hwt
  exact ⟨y, by rw [← h1]; rfl, h2⟩
end args
end Go.Sl
