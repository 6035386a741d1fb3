/-
  Slices that a call owns: what they hold, and the rules for index, load, store, append, make, slicing, copy.
-/
import Derived.Test.YtllopddalmdbjaaSlC
set_option linter.unusedVariables false
set_option linter.unusedSimpArgs false
namespace Go.Sl
open Go

class Enc (α : Type) where
  sz : Nat
  enc : α → List Value
  len : ∀ x, (enc x).length = sz
  one : ∀ x, oneCells (enc x) = true
  pos : 0 < sz

instance : Enc Int := ⟨1, fun n => [.int .i64 n], fun _ => rfl, fun _ => rfl, by decide⟩
instance : Enc UInt8 := ⟨1, fun n => [.int .u8 n.toNat], fun _ => rfl, fun _ => rfl, by decide⟩
instance : Enc ByteArray := ⟨1, fun s => [.string s], fun _ => rfl, fun _ => rfl, by decide⟩
instance : Enc Bool := ⟨1, fun b => [.bool b], fun _ => rfl, fun _ => rfl, by decide⟩

/-- None of the first n cells is marked. -/
def Free (fr : Nat × Nat) (n : Nat) : Prop := fr.1 = fr.2 ∨ n ≤ fr.1
theorem Free.zero (n : Nat) : Free (0, 0) n := .inl rfl

section
variable {α : Type} [E : Enc α]
def encs (xs : List α) : List Value := xs.flatMap Enc.enc
theorem encs_len (xs : List α) : (encs xs).length = xs.length * Enc.sz α := by
  unfold encs
  induction xs with
  | nil => simp
  | cons x r ih => simp [ih, Enc.len, Nat.succ_mul, Nat.add_comm]
theorem encs_append (xs ys : List α) : encs (xs ++ ys) = encs xs ++ encs ys := by simp [encs]
theorem encs_one (xs : List α) : oneCells (encs xs) = true := by
  unfold encs oneCells
  induction xs with
  | nil => rfl
  | cons x r ih => simp only [List.flatMap_cons, List.all_append, ih, Bool.and_true]; exact Enc.one x
theorem encs_split {xs : List α} {k : Nat} {y : α} (hk : xs[k]? = some y) : encs xs = encs (xs.take k) ++ Enc.enc y ++ encs (xs.drop (k + 1)) := by
  have hlt := (List.getElem?_eq_some_iff.1 hk).1
  have hy := (List.getElem?_eq_some_iff.1 hk).2
  have h1 : xs = xs.take k ++ (y :: xs.drop (k + 1)) := by
    rw [← hy, ← List.drop_eq_getElem_cons hlt, List.take_append_drop]
  conv => lhs; rw [h1]
  simp [encs, List.append_assoc]
theorem encs_get {xs : List α} {k off : Nat} {y : α} (hk : xs[k]? = some y) (ho : off < Enc.sz α) (sp : List Value) : (encs xs ++ sp)[k * Enc.sz α + off]? = (Enc.enc y)[off]? := by
  have hlt := (List.getElem?_eq_some_iff.1 hk).1
  have hl : (encs (xs.take k)).length = k * Enc.sz α := by rw [encs_len, List.length_take, Nat.min_eq_left (by omega)]
  rw [encs_split hk, List.append_assoc, List.append_assoc, List.getElem?_append_right (by omega), hl, Nat.add_sub_cancel_left, List.getElem?_append_left (by rw [Enc.len]; exact ho)]

def IsSl (T : Nat) (xs : List α) (v : Value) (h : Hp) : Prop :=
  (v = .slice none 0 0 ∧ xs = [] ∧ h = []) ∨
  ∃ b cap sp fr, v = .slice (some ⟨b, 0, none⟩) xs.length cap ∧ h = [(b, .cells (List.toArray (encs xs ++ sp)) T fr)] ∧ xs.length ≤ cap ∧ sp.length = (cap - xs.length) * Enc.sz α ∧ Free fr (cap * Enc.sz α)

theorem IsSl.nil (T : Nat) : IsSl T ([] : List α) (.slice none 0 0) [] := .inl ⟨rfl, rfl, rfl⟩
theorem IsSl.len {T : Nat} {xs : List α} {v : Value} {h : Hp} (hs : IsSl T xs v h) : ∃ p c, v = .slice p xs.length c := by
  rcases hs with ⟨rfl, rfl, _⟩ | ⟨b, cap, sp, fr, rfl, _⟩
  · exact ⟨_, _, rfl⟩
  · exact ⟨_, _, rfl⟩
theorem IsSl.ne {T : Nat} {xs : List α} {v : Value} {h : Hp} (hs : IsSl T xs v h) (hne : 0 < xs.length) :
    ∃ b cap sp fr, v = .slice (some ⟨b, 0, none⟩) xs.length cap ∧ h = [(b, .cells (List.toArray (encs xs ++ sp)) T fr)] ∧ xs.length ≤ cap ∧ sp.length = (cap - xs.length) * Enc.sz α ∧ Free fr (cap * Enc.sz α) := by
  rcases hs with ⟨rfl, rfl, _⟩ | h
  · simp at hne
  · exact h
/-- The front of it, over the same memory. -/
theorem IsSl.take {T : Nat} {xs : List α} {v : Value} {h : Hp} (hs : IsSl T xs v h) (n : Nat) (hn : n ≤ xs.length) :
    ∃ p l c, v = .slice p l c ∧ IsSl T (xs.take n) (.slice p n c) h := by
  rcases hs with ⟨rfl, rfl, rfl⟩ | ⟨b, cap, sp, fr, rfl, rfl, h1, h2, h3⟩
  · obtain rfl : n = 0 := by simpa using hn
    exact ⟨_, _, _, rfl, .inl ⟨rfl, by simp, rfl⟩⟩
  · refine ⟨_, _, _, rfl, .inr ⟨b, cap, encs (xs.drop n) ++ sp, fr, by rw [List.length_take, Nat.min_eq_left hn], ?_, ?_, ?_, h3⟩⟩
    · rw [← List.append_assoc, ← encs_append, List.take_append_drop]
    · rw [List.length_take]; omega
    · rw [List.length_append, encs_len, h2, List.length_drop, List.length_take, Nat.min_eq_left hn, ← Nat.add_mul]
      congr 1; omega
theorem IsSl.of_block (T b : Nat) (xs : List α) : IsSl T xs (.slice (some ⟨b, 0, none⟩) xs.length xs.length) [(b, .cells (List.toArray (encs xs)) T (0, 0))] :=
  .inr ⟨b, xs.length, [], (0, 0), rfl, by simp, Nat.le_refl _, by simp, Free.zero _⟩

/-- The address of a cell behind a slice: of element k (of m cells) the off-th. -/
def eptr (v : Value) (k m off : Nat) : Value := match v with
  | .slice (some a) _ _ => .pointer (some (a.add (k * m + off)))
  | _ => undef
theorem eptr_some (b l c k m off : Nat) : eptr (.slice (some ⟨b, 0, none⟩) l c) k m off = .pointer (some ⟨b, k * m + off, none⟩) := by
  simp [eptr, add_none]
theorem eptr_at (b o l c k m off : Nat) : eptr (.slice (some ⟨b, o, none⟩) l c) k m off = .pointer (some ⟨b, o + (k * m + off), none⟩) := by
  simp [eptr, add_none]

/-- In the heaplet h the value v reads as these elements (whoever owns the memory). -/
def Rs (xs : List α) (v : Value) (h : Hp) : Prop :=
  ∃ a c, v = .slice a xs.length c ∧ xs.length ≤ c ∧ ∀ k y, xs[k]? = some y → ∃ b off, a = some ⟨b, off, none⟩ ∧ ∀ j u, (Enc.enc y)[j]? = some u → ∀ g w, on g h w → w.cell? ⟨b, off + (k * Enc.sz α + j), none⟩ = some u
theorem IsSl.rs {T : Nat} {xs : List α} {v : Value} {h : Hp} (hs : IsSl T xs v h) : Rs xs v h := by
  rcases hs with ⟨rfl, rfl, rfl⟩ | ⟨b, cap, sp, fr, rfl, rfl, h1, h2, h3⟩
  · exact ⟨_, _, rfl, Nat.le_refl _, fun k y hk => by simp at hk⟩
  · refine ⟨_, _, rfl, h1, fun k y hk => ⟨b, 0, rfl, fun j u hu g w ho => ?_⟩⟩
    have hj : j < Enc.sz α := by have := (List.getElem?_eq_some_iff.1 hu).1; rwa [Enc.len] at this
    rw [Nat.zero_add, cell_bk (ho.2.2 b _ (List.mem_cons_self)), encs_get hk hj, hu]
theorem Rs.mono {xs : List α} {v : Value} {h h' : Hp} (hs : Rs xs v h) (k : ∀ g w, on g h' w → on g h w) : Rs xs v h' := by
  obtain ⟨a, c, e, le, f⟩ := hs
  refine ⟨a, c, e, le, fun i y hi => ?_⟩
  obtain ⟨b, off, e1, e2⟩ := f i y hi
  exact ⟨b, off, e1, fun j u hu g w ho => e2 j u hu g w (k g w ho)⟩
theorem Rs.left {xs : List α} {v : Value} {h h' : Hp} (hs : Rs xs v h) : Rs xs v (h ++ h') := hs.mono fun _ _ ho => ho.left
theorem Rs.right {xs : List α} {v : Value} {h h' : Hp} (hs : Rs xs v h) : Rs xs v (h' ++ h) := hs.mono fun _ _ ho => ho.right
theorem Rs.nil (v : Value) (c : Nat) (h : Hp) (e : v = .slice none 0 c) : Rs ([] : List α) v h := ⟨none, c, e, Nat.zero_le _, fun k y hk => by simp at hk⟩
theorem Rs.len {xs : List α} {v : Value} {h : Hp} (hs : Rs xs v h) : ∃ p c, v = .slice p xs.length c := by
  obtain ⟨a, c, e, _⟩ := hs; exact ⟨a, c, e⟩
/-- x[:m]. -/
def slTo (v : Value) (m : Nat) : Value := match v with
  | .slice p _ c => .slice p m c
  | _ => v
theorem Rs.take {xs : List α} {v : Value} {h : Hp} (hs : Rs xs v h) {m : Nat} (hm : m ≤ xs.length) : Rs (xs.take m) (slTo v m) h := by
  obtain ⟨a, c, rfl, le, f⟩ := hs
  refine ⟨a, c, by simp [slTo, Nat.min_eq_left hm], by rw [List.length_take]; omega, fun k y hk => ?_⟩
  have hlt := (List.getElem?_eq_some_iff.1 hk).1
  rw [List.length_take] at hlt
  exact f k y (by rwa [List.getElem?_take, if_pos (by omega)] at hk)
theorem IsSl.to {T : Nat} {xs : List α} {v : Value} {h : Hp} (hs : IsSl T xs v h) {m : Nat} (hm : m ≤ xs.length) : IsSl T (xs.take m) (slTo v m) h := by
  obtain ⟨p, l, c, rfl, h2⟩ := hs.take m hm
  exact h2
end

theorem nextcap_le (need cap : Nat) (h : cap < need) : Builtin.nextslicecap need cap ≤ 2 * need + 256 := by
  have key : ∀ r c, c ≤ 2 * need + 256 → Builtin.growBy need r c ≤ 2 * need + 256 := by
    intro r
    induction r with
    | zero => intro c hc; exact hc
    | succ r ih =>
      intro c hc
      unfold Builtin.growBy
      split
      · exact hc
      · exact ih _ (by omega)
  unfold Builtin.nextslicecap
  split
  · omega
  · split
    · omega
    · exact key 4 cap (by omega)

class TB (P : Program) (t : Nat) (k : outParam Nat) : Prop where
  s : (P.info? t).map (·.bytes) = some k

section
variable {g : World} {P : Program} {ops : Array Oper} {Q : Exit → Act → World → Prop} {n : Nat} {os rest : List Oper} {L L' : Fm} {H H' : HH} {q : Bool}
variable {d : Nat} {op : Op} {ty : TypeId} {pos : String} {af : Array Edge} {v : Value}
variable {α : Type} [E : Enc α] {xs : List α} {y : α} {T k : Nat} {h : Hp}

theorem Swp.onx {x : Hp} {H : HH} {K : Hp → HH} {w : World} (s : Swp x H K) (h : on g H.flatten w) : Sl.on g x w := by
  obtain ⟨l, r, e, _⟩ := s.p
  rw [e, List.append_assoc] at h
  exact h.right.left
theorem Swp.set {b T : Nat} {o o' : Obj} {H : HH} {K : Hp → HH} {w w' : World} (s : Swp [(b, o)] H K) (h : Sl.on g H.flatten w) (a : Amb w w') (e : w'.heap[b]? = some o')
    (f : ∀ k, k ≠ b → w'.heap[k]? = w.heap[k]?) : Sl.on g (K [(b, o')]).flatten w' := by
  obtain ⟨l, r, e1, e2⟩ := s.p
  rw [e1] at h
  rw [e2]
  have : Sl.on g (l ++ (b, o) :: r) w := by simpa using h
  simpa using this.set a e f

theorem WX.lenSl {x : Operand} {t e : Nat} (hx : ev L x = some v) (hs : Rs xs v h) (hd : Nat.blt d n = true) [ht : TU P t (.slice e)] (kk : WX q g P ops Q n rest ((d, .int .i64 xs.length) :: L) H) :
    WX q g P ops Q n (⟨some d, .call ⟨.builtin .len, #[x], #[t]⟩, ty, pos, af, none⟩ :: rest) L H := by
  obtain ⟨p, c, rfl⟩ := hs.len
  exact WX.len hx hd kk

theorem WX.idx {x i : Operand} {t e m : Nat} {ag : Bool} {kd : IntKind} (hx : ev L x = some v) (hi : ev L i = some (.int kd (k : Int))) (hs : Rs xs v h) (hk : xs[k]? = some y) [ht : TU P t (.slice e)] [hl : TL P e m ag]
    (hd : Nat.blt d n = true) (kk : WX q g P ops Q n rest ((d, eptr v k m 0) :: L) H) : WX q g P ops Q n (⟨some d, .indexAddr t x i, ty, pos, af, none⟩ :: rest) L H := by
  have hlt := (List.getElem?_eq_some_iff.1 hk).1
  obtain ⟨a, c, rfl, _, f⟩ := hs
  obtain ⟨b, off, rfl, _⟩ := f k y hk
  refine WX.val (fun a ha w hw => ?_) hd kk
  have h1 : (k : Int) < (xs.length : Int) := by omega
  simp [execOp, ha.ev hx, ha.ev hi, Instr.indexAt, asIntOf, ht.run, hl.sizeOf, hlt, eptr, add_none]
theorem WX.idxI {x i : Operand} {t e m : Nat} {j : Int} {ag : Bool} {kd : IntKind} (hx : ev L x = some v) (hi : ev L i = some (.int kd j)) (hs : Rs xs v h) (h0 : 0 ≤ j) (hk : xs[j.toNat]? = some y) [ht : TU P t (.slice e)] [hl : TL P e m ag]
    (hd : Nat.blt d n = true) (kk : WX q g P ops Q n rest ((d, eptr v j.toNat m 0) :: L) H) : WX q g P ops Q n (⟨some d, .indexAddr t x i, ty, pos, af, none⟩ :: rest) L H := by
  have e : ((j.toNat : Nat) : Int) = j := Int.toNat_of_nonneg h0
  exact WX.idx hx (by rw [hi, e]) hs hk hd kk

theorem WX.slTo {x i : Operand} {t e m k : Nat} {ag : Bool} {kd : IntKind} (hx : ev L x = some v) (hi : ev L i = some (.int kd (k : Int))) (hs : Rs xs v h) (hk : k ≤ xs.length) [ht : TU P t (.slice e)] [hl : TL P e m ag]
    (hd : Nat.blt d n = true) (kk : WX q g P ops Q n rest ((d, Sl.slTo v k) :: L) H) : WX q g P ops Q n (⟨some d, .slice t x none (some i) none, ty, pos, af, none⟩ :: rest) L H := by
  obtain ⟨a, c, rfl, le, f⟩ := hs
  refine WX.val (fun a' ha w hw => ?_) hd kk
  have h1 : (k : Int) ≤ (c : Int) := by omega
  have h2 : a.map (fun x => x.add 0) = a := by cases a <;> simp [Addr.add]
  simp [execOp, ha.ev hx, ha.ev hi, Instr.sliceAt, Instr.slice, Instr.sliceBounds, Instr.sliceBound, asIntOf, ht.run, hl.sizeOf, h1, Sl.slTo, h2]
  intro hlt; omega

theorem WX.fieldE {x : Operand} {t f m off off' k : Nat} (hx : ev L x = some (eptr v k m off)) (hs : Rs xs v h) (hk : xs[k]? = some y) (hd : Nat.blt d n = true) [hf : TF P t f off'] (kk : WX q g P ops Q n rest ((d, eptr v k m (off + off')) :: L) H) :
    WX q g P ops Q n (⟨some d, .fieldAddr t x f, ty, pos, af, none⟩ :: rest) L H := by
  obtain ⟨a, c, rfl, _, f⟩ := hs
  obtain ⟨b, o, rfl, _⟩ := f k y hk
  rw [eptr_at] at hx kk
  exact WX.fieldAddr hx hd (by simpa [Nat.add_assoc] using kk)
theorem WX.nilE {x : Operand} {m off k : Nat} (hx : ev L x = some (eptr v k m off)) (hs : Rs xs v h) (hk : xs[k]? = some y) (hd : Nat.blt d n = true) (kk : WX q g P ops Q n rest ((d, eptr v k m off) :: L) H) :
    WX q g P ops Q n (⟨some d, .nilCheck x, ty, pos, af, none⟩ :: rest) L H := by
  obtain ⟨a, c, rfl, _, f⟩ := hs
  obtain ⟨b, o, rfl, _⟩ := f k y hk
  rw [eptr_at] at hx kk
  exact WX.nilCheck hx hd kk

theorem WX.loadE {x : Operand} {t off ms : Nat} {u : Value} {K : Hp → HH} (hx : ev L x = some (eptr v k ms off)) (hs : Rs xs v h) (hk : xs[k]? = some y) (hms : ms = Enc.sz α) [ht : TL P t 1 false] [hw : Swp h H K] (ho : (Enc.enc y)[off]? = some u)
    (hd : Nat.blt d n = true) (kk : WX q g P ops Q n rest ((d, u) :: L) H) : WX q g P ops Q n (⟨some d, .load t x, ty, pos, af, none⟩ :: rest) L H := by
  subst hms
  obtain ⟨a, c, rfl, _, f⟩ := hs
  obtain ⟨b, o, rfl, f2⟩ := f k y hk
  rw [eptr_at] at hx
  exact WX.loadR hx (fun w ho1 => f2 off u ho g w (hw.onx ho1)) hd kk
theorem WX.loadEA {x : Operand} {t off m ms : Nat} {us : List Value} {K : Hp → HH} (hx : ev L x = some (eptr v k ms off)) (hs : Rs xs v h) (hk : xs[k]? = some y) (hms : ms = Enc.sz α) [ht : TL P t m true] [hw : Swp h H K] (ho : ((Enc.enc y).drop off).take m = us) (hl : us.length = m)
    (hd : Nat.blt d n = true) (kk : WX q g P ops Q n rest ((d, .agg us.toArray) :: L) H) : WX q g P ops Q n (⟨some d, .load t x, ty, pos, af, none⟩ :: rest) L H := by
  subst hms
  obtain ⟨a, c, rfl, _, f⟩ := hs
  obtain ⟨b, o, rfl, f2⟩ := f k y hk
  rw [eptr_at] at hx
  refine WX.loadAR hx (fun w ho1 j u hu => ?_) hl hd kk
  have hj : j < m := by rw [← hl]; exact (List.getElem?_eq_some_iff.1 hu).1
  have hu' : (Enc.enc y)[off + j]? = some u := by rw [← hu, ← ho, List.getElem?_take, if_pos hj, List.getElem?_drop]
  have := f2 (off + j) u hu' g w (hw.onx ho1)
  simpa [Nat.add_assoc] using this

theorem setAt_append_left (l r : List Value) : ∀ (vs : List Value) (i : Nat), i + vs.length ≤ l.length → setAt (l ++ r) i vs = setAt l i vs ++ r
  | [], i, _ => rfl
  | v :: vs, i, hl => by
    simp only [List.length_cons] at hl
    simp only [setAt]
    rw [List.set_append_left _ _ (by omega), setAt_append_left _ r vs (i + 1) (by simp; omega)]
theorem setAt_append_right (l r : List Value) : ∀ (vs : List Value) (i : Nat), setAt (l ++ r) (l.length + i) vs = l ++ setAt r i vs
  | [], i => rfl
  | v :: vs, i => by
    simp only [setAt]
    rw [List.set_append_right _ _ (by omega), Nat.add_sub_cancel_left, Nat.add_assoc, setAt_append_right l _ vs (i + 1)]
theorem setAt_len : ∀ (vs : List Value) (l : List Value) (i : Nat), (setAt l i vs).length = l.length
  | [], l, i => rfl
  | v :: vs, l, i => by simp only [setAt]; rw [setAt_len vs]; simp
theorem setAt_all : ∀ (vs r : List Value) (i : Nat) (l : List Value), l.length = i → r.length = vs.length → setAt (l ++ r) i vs = l ++ vs
  | [], r, i, l, _, h => by have : r = [] := List.length_eq_zero_iff.1 h; subst this; rfl
  | v :: vs, [], i, l, _, h => by simp at h
  | v :: vs, x :: r, i, l, h1, h2 => by
    simp only [setAt]
    rw [List.set_append_right _ _ (by omega)]
    simp only [show i - l.length = 0 by omega, List.set_cons_zero]
    have := setAt_all vs r (i + 1) (l ++ [v]) (by simp; omega) (by simpa using h2)
    simpa using this

theorem frozen_free {w : World} {b i T : Nat} {cs : List Value} {fr : Nat × Nat} (h : w.heap[b]? = some (.cells cs.toArray T fr)) (hf : Free fr cs.length) (hi : i < cs.length) : w.frozen? ⟨b, i, none⟩ = false := by
  simp only [World.frozen?, h]
  obtain ⟨lo, hi'⟩ := fr
  rcases hf with hf | hf
  · simp only at hf
    simp; omega
  · simp only at hf
    simp; omega
theorem run_storeCellsF {b T : Nat} {fr : Nat × Nat} : ∀ (vs : List Value) (i k : Nat) (cs : List Value) (w : World), w.heap[b]? = some (.cells cs.toArray T fr) → Free fr cs.length → i + k + vs.length ≤ cs.length → oneCells vs = true →
    ∃ w', (storeCells ⟨b, i, none⟩ vs k).run P w = .ok () w' ∧ Amb w w' ∧ w'.heap[b]? = some (.cells (setAt cs (i + k) vs).toArray T fr) ∧ ∀ j, j ≠ b → w'.heap[j]? = w.heap[j]?
  | [], i, k, cs, w, h, _, _, _ => ⟨w, by simp [storeCells], Amb.refl w, by simpa [setAt] using h, fun _ _ => rfl⟩
  | v :: vs, i, k, cs, w, h, hf, hl, h1 => by
    simp only [oneCells, List.all_cons, Bool.and_eq_true] at h1
    simp only [List.length_cons] at hl
    have h2 := setCell_heap (i := i + k) (v := v) h
    obtain ⟨w', e1, e2, e3, e4⟩ := run_storeCellsF vs i (k + 1) (cs.set (i + k) v) (w.setCell ⟨b, i + k, none⟩ v) h2 (by simpa using hf) (by simp; omega) h1.2
    refine ⟨w', ?_, setCell_amb.trans e2, ?_, fun j hj => (e4 j hj).trans ?_⟩
    · have hlt : i + k < cs.length := by omega
      have hr : (store (Addr.add ⟨b, i, none⟩ k) v).run P w = .ok () (w.setCell ⟨b, i + k, none⟩ v) := by
        rw [run_store P w _ v .plain h1.1, add_none, cell_bk h, List.getElem?_eq_getElem hlt, frozen_free h hf hlt]; simp
      simp only [storeCells, Sem.run_bind, hr, Result.andThen_ok, e1]
    · simpa [setAt, Nat.add_assoc] using e3
    · exact RowKit.Below.heap_setCell _ _ _ _ hj

theorem IsSl.set {b cap : Nat} {sp : List Value} {fr : Nat × Nat} {y' : α} (hk : xs[k]? = some y) (h1 : xs.length ≤ cap) (h2 : sp.length = (cap - xs.length) * Enc.sz α) (h3 : Free fr (cap * Enc.sz α)) {off : Nat} {vs : List Value} (hy : setAt (Enc.enc y) off vs = Enc.enc y')
    (hle : off + vs.length ≤ Enc.sz α) :
    IsSl T (xs.set k y') (.slice (some ⟨b, 0, none⟩) xs.length cap) [(b, .cells (List.toArray (setAt (encs xs ++ sp) (k * Enc.sz α + off) vs)) T fr)] := by
  have hlt := (List.getElem?_eq_some_iff.1 hk).1
  refine .inr ⟨b, cap, sp, fr, by simp, ?_, by simpa using h1, by simpa using h2, h3⟩
  congr 4
  have hl : (encs (xs.take k)).length = k * Enc.sz α := by rw [encs_len, List.length_take, Nat.min_eq_left (by omega)]
  have hk' : (xs.set k y')[k]? = some y' := by simp [hlt]
  rw [encs_split hk, encs_split hk', ← hl, List.append_assoc, List.append_assoc, setAt_append_right, setAt_append_left _ _ _ _ (by rw [Enc.len]; exact hle), hy]
  simp [List.append_assoc, List.take_set_of_le, List.drop_set_of_lt]

theorem WX.storeE {x z : Operand} {t m off ms : Nat} {ag : Bool} {y' : α} {vs : List Value} {u : Value} {K : Hp → HH} (hx : ev L x = some (eptr v k ms off)) (hz : ev L z = some u) (hv : u.cells = vs.toArray) (hs : IsSl T xs v h) (hk : xs[k]? = some y) (hms : ms = Enc.sz α)
    [ht : TL P t m ag] [hw : Swp h H K] (hl : vs.length = m) (h1 : oneCells vs = true) (hy : setAt (Enc.enc y) off vs = Enc.enc y') (hle' : Nat.ble (off + vs.length) (Enc.sz α) = true)
    (kk : ∀ h', IsSl T (xs.set k y') v h' → WX false g P ops Q n rest L (K h')) : WX false g P ops Q n (⟨none, .store t x z, ty, pos, af, none⟩ :: rest) L H := by
  have hle := Nat.le_of_ble_eq_true hle'
  subst hms
  have hlt := (List.getElem?_eq_some_iff.1 hk).1
  obtain ⟨b, cap, sp, fr, rfl, rfl, g1, g2, g3⟩ := hs.ne (by omega)
  rw [eptr_some] at hx
  have hlen : (encs xs ++ sp).length = cap * Enc.sz α := by rw [List.length_append, encs_len, g2, ← Nat.add_mul]; congr 1; omega
  have hke : k * Enc.sz α + Enc.sz α ≤ cap * Enc.sz α := by rw [← Nat.succ_mul]; exact Nat.mul_le_mul_right _ (by omega)
  refine WX.effS (fun a w ha ho => ?_)
  have hh := (hw.onx ho).2.2 b _ (List.mem_cons_self)
  obtain ⟨w', e1, e2, e3, e4⟩ := run_storeCellsF (P := P) vs (k * Enc.sz α + off) 0 _ w hh (by rw [hlen]; exact g3) (by omega) h1
  refine ⟨w', _, ?_, hw.set (T := T) ho e2 e3 e4, kk _ (IsSl.set hk g1 g2 g3 hy hle)⟩
  simp [execOp, ha.ev hx, ha.ev hz, Instr.storeAt, Instr.sureAddr, storeVar, ht.sizeOf, hv, hl, e1]
end
end Go.Sl
