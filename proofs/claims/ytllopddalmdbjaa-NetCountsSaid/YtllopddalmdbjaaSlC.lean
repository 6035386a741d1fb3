/-
  The operations' rules (values, loads, stores, new blocks, calls).
-/
import Derived.Test.YtllopddalmdbjaaSlB
set_option linter.unusedVariables false
set_option linter.unusedSimpArgs false
namespace Go.Sl
open Go

class TU (P : Program) (t : Nat) (d : outParam TypeDesc) : Prop where
  h : P.underlying t = some d
def aggOf : TypeDesc → Bool
  | .struct _ | .array _ _ => true
  | _ => false
class TL (P : Program) (t : Nat) (k : outParam Nat) (agg : outParam Bool) : Prop where
  s : (P.info? t).map (·.size) = some k
  a : (P.underlying t).map aggOf = some agg
class TF (P : Program) (t f : Nat) (off : outParam Nat) : Prop where
  h : ∃ fs fd, P.underlying t = some (.struct fs) ∧ fs[f]? = some fd ∧ fd.offset = off ∧ ∃ k, (P.info? fd.type).map (·.size) = some (k + 1)
class TFt (P : Program) (t f : Nat) (off ft : outParam Nat) : Prop where
  h : ∃ fs fd, P.underlying t = some (.struct fs) ∧ fs[f]? = some fd ∧ fd.offset = off ∧ fd.type = ft
class TZ (P : Program) (t : Nat) (zs : outParam (List Value)) : Prop where
  h : ∃ i z, P.info? t = some i ∧ i.zero = some z ∧ z.cells = zs.toArray
class TP (P : Program) (t : Nat) (pl : outParam (List (Nat × Nat))) : Prop where
  h : ∃ fs, P.underlying t = some (.struct fs) ∧ fs.toList.mapM (fun f => (P.info? f.type).map fun i => (f.offset, i.size)) = some pl

def fieldInfo (P : Program) (t f : Nat) : Option (Nat × Nat × Nat) := match P.underlying t with
  | some (.struct fs) => (fs[f]?).bind fun fd => (P.info? fd.type).map fun i => (fd.offset, fd.type, i.size)
  | _ => none
def placesOf (P : Program) (t : Nat) : Option (List (Nat × Nat)) := match P.underlying t with
  | some (.struct fs) => fs.toList.mapM fun f => (P.info? f.type).map fun i => (f.offset, i.size)
  | _ => none
/-- Cells from i on, written one by one. -/
def setAt : List Value → Nat → List Value → List Value
  | cs, _, [] => cs
  | cs, i, v :: vs => setAt (cs.set i v) (i + 1) vs
section
variable {P : Program} {w : World}
theorem TZ.of {t : Nat} {zs : List Value} (h : ((P.info? t).bind fun i => i.zero.map fun z => z.cells.toList) = some zs) : TZ P t zs := by
  cases hi : P.info? t with
  | none => simp [hi] at h
  | some i =>
    cases hz : i.zero with
    | none => simp [hi, hz] at h
    | some z => simp only [hi, hz, Option.bind_some, Option.map_some, Option.some.injEq] at h; exact ⟨i, z, hi, hz, by simp [← h]⟩
theorem fieldInfo_of {t f off ft k : Nat} (h : fieldInfo P t f = some (off, ft, k)) : ∃ fs fd, P.underlying t = some (.struct fs) ∧ fs[f]? = some fd ∧ fd.offset = off ∧ fd.type = ft ∧ (P.info? fd.type).map (·.size) = some k := by
  unfold fieldInfo at h
  split at h
  · rename_i fs hu
    cases hf : fs[f]? with
    | none => simp [hf] at h
    | some fd =>
      cases hi : P.info? fd.type with
      | none => simp [hf, hi] at h
      | some i =>
        simp only [hf, hi, Option.bind_some, Option.map_some, Option.some.injEq, Prod.mk.injEq] at h
        exact ⟨fs, fd, hu, hf, h.1, h.2.1, by simp [hi, h.2.2]⟩
  · cases h
theorem TF.of {t f off ft k : Nat} (h : fieldInfo P t f = some (off, ft, k + 1)) : TF P t f off :=
  let ⟨fs, fd, h1, h2, h3, _, h5⟩ := fieldInfo_of h
  ⟨fs, fd, h1, h2, h3, k, h5⟩
theorem TFt.of {t f off ft k : Nat} (h : fieldInfo P t f = some (off, ft, k)) : TFt P t f off ft :=
  let ⟨fs, fd, h1, h2, h3, h4, _⟩ := fieldInfo_of h
  ⟨fs, fd, h1, h2, h3, h4⟩
theorem TP.of {t : Nat} {pl : List (Nat × Nat)} (h : placesOf P t = some pl) : TP P t pl := by
  unfold placesOf at h
  split at h
  · exact ⟨_, ‹_›, h⟩
  · cases h
theorem TL.sizeOf {t k : Nat} {b : Bool} (h : TL P t k b) : (sizeOf t).run P w = .ok k w := by
  obtain ⟨s, _⟩ := h
  cases hi : P.info? t with
  | none => simp [hi] at s
  | some i => simp [hi] at s; simp [Go.sizeOf, typeInfo, hi, s]
theorem TL.isAgg {t k : Nat} {b : Bool} (h : TL P t k b) : (isAgg t).run P w = .ok b w := by
  obtain ⟨_, a⟩ := h
  cases hu : P.underlying t with
  | none => simp [hu] at a
  | some d => simp only [hu, Option.map_some, Option.some.injEq] at a; subst a; cases d <;> simp [Go.isAgg, underlying, hu, aggOf]
theorem TU.run {t : Nat} {d : TypeDesc} (h : TU P t d) : (underlying t).run P w = .ok d w := by simp [underlying, h.h]
theorem TZ.run {t : Nat} {zs : List Value} (h : TZ P t zs) : ∃ z, (zeroValue t).run P w = .ok z w ∧ z.cells = zs.toArray := by
  obtain ⟨i, z, h1, h2, h3⟩ := h.h
  exact ⟨z, by simp [zeroValue, typeInfo, h1, h2], h3⟩
theorem add_none (b i k : Nat) : Addr.add ⟨b, i, none⟩ k = ⟨b, i + k, none⟩ := by
  unfold Addr.add; split <;> simp_all
theorem cell_bk {b i T : Nat} {cs : List Value} {fr : Nat × Nat} (h : w.heap[b]? = some (.cells cs.toArray T fr)) : w.cell? ⟨b, i, none⟩ = cs[i]? := by
  simp [World.cell?, h]
theorem frozen_bk {b i T : Nat} {cs : List Value} (h : w.heap[b]? = some (.cells cs.toArray T (0, 0))) : w.frozen? ⟨b, i, none⟩ = false := by
  simp [World.frozen?, h]
end

section
variable {g : World} {P : Program} {ops : Array Oper} {Q : Exit → Act → World → Prop} {n : Nat} {os rest : List Oper} {L L' : Fm} {H H' : HH} {q : Bool}
variable {d : Nat} {op : Op} {ty : TypeId} {pos : String} {af : Array Edge} {v : Value}

theorem WX.nil (k : D g Q .normal n L H) : WX q g P ops Q n [] L H := by
  refine .mk fun a w ha hw => ?_
  cases q
  · exact k a w ha hw
  · show wpQuiet P ops (on g H.flatten) (fun a' => ∀ w', on g H.flatten w' → Q .normal a' w') [] a
    exact wpQuiet_nil fun w' hw' => k a w' ha hw'

theorem WX.val (he : ∀ a, Fr n L a → ∀ w, on g H.flatten w → (execOp a.eval ⟨some d, op, ty, pos, af, none⟩).run P w = .ok (.value v) w) (hd : Nat.blt d n = true)
    (k : WX q g P ops Q n rest ((d, v) :: L) H) : WX q g P ops Q n (⟨some d, op, ty, pos, af, none⟩ :: rest) L H := by
  refine .mk fun a w ha hw => ?_
  have hd' : d < n := Nat.le_of_ble_eq_true hd
  have hk := k (a.put (some d) v) w (ha.put hd' v) hw
  cases q
  · refine wpList_plain rfl fun K hK => ?_
    unfold Oper.wp
    rw [he a ha w hw]
    exact hK _ _ hk
  · refine wpQuiet_step fun K hK => ?_
    simp only [Region.wanted, if_true]
    refine ⟨v, fun w' hw' => ?_, hK _ hk⟩
    unfold Oper.quietAt
    rw [he a ha w' hw']
    exact ⟨rfl, rfl⟩

/-- A value that nobody keeps. -/
theorem WX.valN (he : ∀ a, Fr n L a → ∀ w, on g H.flatten w → (execOp a.eval ⟨none, op, ty, pos, af, none⟩).run P w = .ok (.value v) w)
    (k : WX q g P ops Q n rest L H) : WX q g P ops Q n (⟨none, op, ty, pos, af, none⟩ :: rest) L H := by
  refine .mk fun a w ha hw => ?_
  have hk := k a w ha hw
  cases q
  · refine wpList_plain rfl fun K hK => ?_
    unfold Oper.wp
    rw [he a ha w hw]
    exact hK _ _ hk
  · refine wpQuiet_step fun K hK => ?_
    simp only [Region.wanted, if_true]
    refine ⟨v, fun w' hw' => ?_, hK _ hk⟩
    unfold Oper.quietAt
    rw [he a ha w' hw']
    exact ⟨rfl, rfl⟩

theorem WX.eff (hd : Nat.blt d n = true) (he : ∀ a w, Fr n L a → on g H.flatten w → ∃ v w' H', (execOp a.eval ⟨some d, op, ty, pos, af, none⟩).run P w = .ok (.value v) w' ∧ on g (List.flatten H') w' ∧
      WX false g P ops Q n rest ((d, v) :: L) H') : WX false g P ops Q n (⟨some d, op, ty, pos, af, none⟩ :: rest) L H := by
  refine .mk fun a w ha hw => ?_
  have hd' : d < n := Nat.le_of_ble_eq_true hd
  obtain ⟨v, w', H', hr, ho, k⟩ := he a w ha hw
  refine wpList_plain rfl fun K hK => ?_
  unfold Oper.wp
  rw [hr]
  exact hK _ _ (k _ _ (ha.put hd' v) ho)

theorem WX.effN (he : ∀ a w, Fr n L a → on g H.flatten w → ∃ v w' H', (execOp a.eval ⟨none, op, ty, pos, af, none⟩).run P w = .ok (.value v) w' ∧ on g (List.flatten H') w' ∧
      WX false g P ops Q n rest L H') : WX false g P ops Q n (⟨none, op, ty, pos, af, none⟩ :: rest) L H := by
  refine .mk fun a w ha hw => ?_
  obtain ⟨v, w', H', hr, ho, k⟩ := he a w ha hw
  refine wpList_plain rfl fun K hK => ?_
  unfold Oper.wp
  rw [hr]
  exact hK _ _ (k _ _ (ha.putNone v) ho)

theorem WX.effS (he : ∀ a w, Fr n L a → on g H.flatten w → ∃ w' H', (execOp a.eval ⟨none, op, ty, pos, af, none⟩).run P w = .ok .skip w' ∧ on g (List.flatten H') w' ∧
      WX false g P ops Q n rest L H') : WX false g P ops Q n (⟨none, op, ty, pos, af, none⟩ :: rest) L H := by
  refine .mk fun a w ha hw => ?_
  obtain ⟨w', H', hr, ho, k⟩ := he a w ha hw
  refine wpList_plain rfl fun K hK => ?_
  unfold Oper.wp
  rw [hr]
  exact hK _ _ (k _ _ (ha.putNone undef) ho)

-- guards
theorem WX.gy {dst : Option Tmp} {j t : Nat} {want : Bool} (hj : (ops[j]?).bind (·.dst) = some t) (ht : lk L t = some (.bool want)) (k : WX q g P ops Q n (⟨dst, op, ty, pos, af, none⟩ :: rest) L H) :
    WX q g P ops Q n (⟨dst, op, ty, pos, af, some (j, want)⟩ :: rest) L H := by
  refine .mk fun a w ha hw => ?_
  have hy : yielded ops a.tmps j = some want := by simp [yielded, hj, ha.get _ _ ht]
  have := k a w ha hw
  unfold wxr at this ⊢
  cases q
  · simp only [wpList, Region.wanted, hy, beq_self_eq_true, if_true] at this ⊢
    exact this
  · simp only [wpQuiet, Region.wanted, hy, beq_self_eq_true, if_true] at this ⊢
    exact this
theorem WX.gn {j t : Nat} {want b : Bool} (hj : (ops[j]?).bind (·.dst) = some t) (ht : lk L t = some (.bool b)) (hne : (b == want) = false) (hd : Nat.blt d n = true) (k : WX q g P ops Q n rest ((d, undef) :: L) H) :
    WX q g P ops Q n (⟨some d, op, ty, pos, af, some (j, want)⟩ :: rest) L H := by
  refine .mk fun a w ha hw => ?_
  have hd' : d < n := Nat.le_of_ble_eq_true hd
  have hy : (yielded ops a.tmps j == some want) = false := by simp [yielded, hj, ha.get _ _ ht]; simpa using hne
  have := k (a.put (some d) undef) w (ha.put hd' undef) hw
  unfold wxr at this ⊢
  cases q
  · simp only [wpList, Region.wanted, hy, Bool.false_eq_true, if_false]
    exact this
  · simp only [wpQuiet, Region.wanted, hy, Bool.false_eq_true, if_false]
    exact this
theorem WX.gnN {j t : Nat} {want b : Bool} (hj : (ops[j]?).bind (·.dst) = some t) (ht : lk L t = some (.bool b)) (hne : (b == want) = false) (k : WX q g P ops Q n rest L H) :
    WX q g P ops Q n (⟨none, op, ty, pos, af, some (j, want)⟩ :: rest) L H := by
  refine .mk fun a w ha hw => ?_
  have hy : (yielded ops a.tmps j == some want) = false := by simp [yielded, hj, ha.get _ _ ht]; simpa using hne
  have := k a w ha hw
  unfold wxr at this ⊢
  cases q
  · simp only [wpList, Region.wanted, hy, Bool.false_eq_true, if_false]
    exact this
  · simp only [wpQuiet, Region.wanted, hy, Bool.false_eq_true, if_false]
    exact this
/-- A slot that holds a truth value: two ways. -/
theorem WX.split (t : Nat) {b : Bool} (ht : lk L t = some (.bool b)) (h1 : b = true → WX q g P ops Q n os ((t, .bool true) :: L) H) (h2 : b = false → WX q g P ops Q n os ((t, .bool false) :: L) H) : WX q g P ops Q n os L H := by
  have f : ∀ c, b = c → Fsub L ((t, .bool c) :: L) := fun c hc => Fsub.cons (hc ▸ ht) (Fsub.refl L)
  cases b
  · exact .mk fun a w ha hw => h2 rfl a w (ha.sub (f _ rfl)) hw
  · exact .mk fun a w ha hw => h1 rfl a w (ha.sub (f _ rfl)) hw
theorem WX.splitD (t : Nat) {p : Prop} [Decidable p] (ht : lk L t = some (.bool (decide p))) (h1 : p → WX q g P ops Q n os ((t, .bool true) :: L) H) (h2 : ¬ p → WX q g P ops Q n os ((t, .bool false) :: L) H) : WX q g P ops Q n os L H :=
  WX.split t ht (fun h => h1 (of_decide_eq_true h)) (fun h => h2 (of_decide_eq_false h))
/-- At a guarded operation: the guard is known, unknown. -/
theorem WX.gT {dst : Option Tmp} {j t : Nat} {want : Bool} {p : Prop} [Decidable p] (hj : (ops[j]?).bind (·.dst) = some t) (ht : lk L t = some (.bool (decide p))) (hp : p) (k : WX q g P ops Q n (⟨dst, op, ty, pos, af, some (j, want)⟩ :: rest) ((t, .bool true) :: L) H) :
    WX q g P ops Q n (⟨dst, op, ty, pos, af, some (j, want)⟩ :: rest) L H := WX.splitD t ht (fun _ => k) (fun h => absurd hp h)
theorem WX.gF {dst : Option Tmp} {j t : Nat} {want : Bool} {p : Prop} [Decidable p] (hj : (ops[j]?).bind (·.dst) = some t) (ht : lk L t = some (.bool (decide p))) (hp : ¬ p) (k : WX q g P ops Q n (⟨dst, op, ty, pos, af, some (j, want)⟩ :: rest) ((t, .bool false) :: L) H) :
    WX q g P ops Q n (⟨dst, op, ty, pos, af, some (j, want)⟩ :: rest) L H := WX.splitD t ht (fun h => absurd h hp) (fun _ => k)
theorem WX.gS {dst : Option Tmp} {j t : Nat} {want : Bool} {p : Prop} [Decidable p] (hj : (ops[j]?).bind (·.dst) = some t) (ht : lk L t = some (.bool (decide p))) (k1 : p → WX q g P ops Q n (⟨dst, op, ty, pos, af, some (j, want)⟩ :: rest) ((t, .bool true) :: L) H)
    (k2 : ¬ p → WX q g P ops Q n (⟨dst, op, ty, pos, af, some (j, want)⟩ :: rest) ((t, .bool false) :: L) H) :
    WX q g P ops Q n (⟨dst, op, ty, pos, af, some (j, want)⟩ :: rest) L H := WX.splitD t ht k1 k2
theorem WX.gSB {dst : Option Tmp} {j t : Nat} {want b : Bool} (hj : (ops[j]?).bind (·.dst) = some t) (ht : lk L t = some (.bool b)) (k1 : b = true → WX q g P ops Q n (⟨dst, op, ty, pos, af, some (j, want)⟩ :: rest) ((t, .bool true) :: L) H)
    (k2 : b = false → WX q g P ops Q n (⟨dst, op, ty, pos, af, some (j, want)⟩ :: rest) ((t, .bool false) :: L) H) :
    WX q g P ops Q n (⟨dst, op, ty, pos, af, some (j, want)⟩ :: rest) L H := WX.split t ht k1 k2
/-- A slot's value is written otherwise. -/
theorem WX.as (t : Nat) (v : Value) {u : Value} (ht : lk L t = some u) (e : u = v) (h : WX q g P ops Q n os ((t, v) :: L) H) : WX q g P ops Q n os L H :=
  .mk fun a w ha hw => h a w (ha.sub (Fsub.cons (e ▸ ht) (Fsub.refl L))) hw

-- plain values
theorem WX.move {x : Operand} (hx : ev L x = some v) (hd : Nat.blt d n = true) (k : WX q g P ops Q n rest ((d, v) :: L) H) : WX q g P ops Q n (⟨some d, .move x, ty, pos, af, none⟩ :: rest) L H :=
  WX.val (fun a ha w _ => by simp [execOp, ha.ev hx]) hd k
theorem WX.assign {x : Operand} (hx : ev L x = some v) (hd : Nat.blt d n = true) (k : WX q g P ops Q n rest ((d, v) :: L) H) : WX q g P ops Q n (⟨some d, .assign x, ty, pos, af, none⟩ :: rest) L H :=
  WX.val (fun a ha w _ => by simp [execOp, ha.ev hx]) hd k
theorem WX.pick {c x y : Operand} {b : Bool} {vx vy : Value} (hc : ev L c = some (.bool b)) (hx : ev L x = some vx) (hy : ev L y = some vy) (hd : Nat.blt d n = true)
    (k : WX q g P ops Q n rest ((d, if b then vx else vy) :: L) H) : WX q g P ops Q n (⟨some d, .pick c x y, ty, pos, af, none⟩ :: rest) L H :=
  WX.val (fun a ha w _ => by simp [execOp, ha.ev hc, ha.ev hx, ha.ev hy, asBool]) hd k
theorem WX.pickT {c x y : Operand} (hc : ev L c = some (.bool true)) (hx : ev L x = some v) (hd : Nat.blt d n = true)
    (k : WX q g P ops Q n rest ((d, v) :: L) H) : WX q g P ops Q n (⟨some d, .pick c x y, ty, pos, af, none⟩ :: rest) L H :=
  WX.val (fun a ha w _ => by simp [execOp, ha.ev hc, ha.ev hx, asBool]) hd k
theorem WX.pickF {c x y : Operand} (hc : ev L c = some (.bool false)) (hx : ev L y = some v) (hd : Nat.blt d n = true)
    (k : WX q g P ops Q n rest ((d, v) :: L) H) : WX q g P ops Q n (⟨some d, .pick c x y, ty, pos, af, none⟩ :: rest) L H :=
  WX.val (fun a ha w _ => by simp [execOp, ha.ev hc, ha.ev hx, asBool]) hd k

theorem WX.nilCheck {x : Operand} {p : Addr} (hx : ev L x = some (.pointer (some p))) (hd : Nat.blt d n = true) (k : WX q g P ops Q n rest ((d, .pointer (some p)) :: L) H) :
    WX q g P ops Q n (⟨some d, .nilCheck x, ty, pos, af, none⟩ :: rest) L H :=
  WX.val (fun a ha w _ => by simp [execOp, ha.ev hx]) hd k
theorem WX.nilCheckN {x : Operand} {p : Addr} (hx : ev L x = some (.pointer (some p))) (k : WX q g P ops Q n rest L H) :
    WX q g P ops Q n (⟨none, .nilCheck x, ty, pos, af, none⟩ :: rest) L H :=
  WX.valN (v := .pointer (some p)) (fun a ha w _ => by simp [execOp, ha.ev hx]) k

-- integers
section ints
variable {x y : Operand} {t t' : Nat} {i j : Int} {kd : IntKind}
theorem run_bin {op : BinOp} {a : Act} {vx vy r : Value} {w : World} (hx : a.eval x = vx) (hy : a.eval y = vy) (h1 : (eqGuard op t x y vx vy).run P w = .ok () w) (h2 : (binOp op t vx vy).run P w = .ok r w) :
    (execOp a.eval ⟨some d, .binOp op t x y t', ty, pos, af, none⟩).run P w = .ok (.value r) w := by
  simp [execOp, hx, hy, h1, h2]
theorem run_eqGuard_int {op : BinOp} {w : World} : (eqGuard op t x y (.int kd i) (.int kd j)).run P w = .ok () w := by
  unfold eqGuard; cases op <;> rfl

theorem WX.add (hx : ev L x = some (.int .i64 i)) (hy : ev L y = some (.int .i64 j)) (hd : Nat.blt d n = true) (r : -9223372036854775808 ≤ i + j ∧ i + j ≤ 9223372036854775807)
    (k : WX q g P ops Q n rest ((d, .int .i64 (i + j)) :: L) H) : WX q g P ops Q n (⟨some d, .binOp .add t x y t', ty, pos, af, none⟩ :: rest) L H :=
  WX.val (fun a ha w _ => run_bin (ha.ev hx) (ha.ev hy) run_eqGuard_int (by simp [binOp, Op.intArith, IntWalk.i64_in _ r])) hd k
theorem WX.sub' (hx : ev L x = some (.int .i64 i)) (hy : ev L y = some (.int .i64 j)) (hd : Nat.blt d n = true) (r : -9223372036854775808 ≤ i - j ∧ i - j ≤ 9223372036854775807)
    (k : WX q g P ops Q n rest ((d, .int .i64 (i - j)) :: L) H) : WX q g P ops Q n (⟨some d, .binOp .sub t x y t', ty, pos, af, none⟩ :: rest) L H :=
  WX.val (fun a ha w _ => run_bin (ha.ev hx) (ha.ev hy) run_eqGuard_int (by simp [binOp, Op.intArith, IntWalk.i64_in _ r])) hd k
theorem WX.mul (hx : ev L x = some (.int .i64 i)) (hy : ev L y = some (.int .i64 j)) (hd : Nat.blt d n = true) (r : -9223372036854775808 ≤ i * j ∧ i * j ≤ 9223372036854775807)
    (k : WX q g P ops Q n rest ((d, .int .i64 (i * j)) :: L) H) : WX q g P ops Q n (⟨some d, .binOp .mul t x y t', ty, pos, af, none⟩ :: rest) L H :=
  WX.val (fun a ha w _ => run_bin (ha.ev hx) (ha.ev hy) run_eqGuard_int (by simp [binOp, Op.intArith, IntWalk.i64_in _ r])) hd k
/-- Sums, differences, products that may go round. -/
theorem WX.addW (hx : ev L x = some (.int kd i)) (hy : ev L y = some (.int kd j)) (hd : Nat.blt d n = true)
    (k : WX q g P ops Q n rest ((d, .int kd (kd.wrap (i + j))) :: L) H) : WX q g P ops Q n (⟨some d, .binOp .add t x y t', ty, pos, af, none⟩ :: rest) L H :=
  WX.val (fun a ha w _ => run_bin (ha.ev hx) (ha.ev hy) run_eqGuard_int (by simp [binOp, Op.intArith])) hd k
theorem WX.subW (hx : ev L x = some (.int kd i)) (hy : ev L y = some (.int kd j)) (hd : Nat.blt d n = true)
    (k : WX q g P ops Q n rest ((d, .int kd (kd.wrap (i - j))) :: L) H) : WX q g P ops Q n (⟨some d, .binOp .sub t x y t', ty, pos, af, none⟩ :: rest) L H :=
  WX.val (fun a ha w _ => run_bin (ha.ev hx) (ha.ev hy) run_eqGuard_int (by simp [binOp, Op.intArith])) hd k
theorem WX.mulW (hx : ev L x = some (.int kd i)) (hy : ev L y = some (.int kd j)) (hd : Nat.blt d n = true)
    (k : WX q g P ops Q n rest ((d, .int kd (kd.wrap (i * j))) :: L) H) : WX q g P ops Q n (⟨some d, .binOp .mul t x y t', ty, pos, af, none⟩ :: rest) L H :=
  WX.val (fun a ha w _ => run_bin (ha.ev hx) (ha.ev hy) run_eqGuard_int (by simp [binOp, Op.intArith])) hd k
theorem WX.rem (hx : ev L x = some (.int kd i)) (hy : ev L y = some (.int kd j)) (hd : Nat.blt d n = true) (r : j ≠ 0)
    (k : WX q g P ops Q n rest ((d, .int kd (i.tmod j)) :: L) H) : WX q g P ops Q n (⟨some d, .binOp .rem t x y t', ty, pos, af, none⟩ :: rest) L H :=
  WX.val (fun a ha w _ => run_bin (ha.ev hx) (ha.ev hy) run_eqGuard_int (by simp [binOp, Op.intDiv, r])) hd k
theorem WX.quo (hx : ev L x = some (.int kd i)) (hy : ev L y = some (.int kd j)) (hd : Nat.blt d n = true) (r : j ≠ 0)
    (k : WX q g P ops Q n rest ((d, .int kd (kd.wrap (i.tdiv j))) :: L) H) : WX q g P ops Q n (⟨some d, .binOp .quo t x y t', ty, pos, af, none⟩ :: rest) L H :=
  WX.val (fun a ha w _ => run_bin (ha.ev hx) (ha.ev hy) run_eqGuard_int (by simp [binOp, Op.intDiv, r])) hd k
theorem WX.lss (hx : ev L x = some (.int kd i)) (hy : ev L y = some (.int kd j)) (hd : Nat.blt d n = true)
    (k : WX q g P ops Q n rest ((d, .bool (decide (i < j))) :: L) H) : WX q g P ops Q n (⟨some d, .binOp .lss t x y t', ty, pos, af, none⟩ :: rest) L H :=
  WX.val (fun a ha w _ => run_bin (ha.ev hx) (ha.ev hy) run_eqGuard_int (by simp [binOp, Op.intCmp])) hd k
theorem WX.leq (hx : ev L x = some (.int kd i)) (hy : ev L y = some (.int kd j)) (hd : Nat.blt d n = true)
    (k : WX q g P ops Q n rest ((d, .bool (decide (i ≤ j))) :: L) H) : WX q g P ops Q n (⟨some d, .binOp .leq t x y t', ty, pos, af, none⟩ :: rest) L H :=
  WX.val (fun a ha w _ => run_bin (ha.ev hx) (ha.ev hy) run_eqGuard_int (by simp [binOp, Op.intCmp])) hd k
theorem WX.gtr (hx : ev L x = some (.int kd i)) (hy : ev L y = some (.int kd j)) (hd : Nat.blt d n = true)
    (k : WX q g P ops Q n rest ((d, .bool (decide (j < i))) :: L) H) : WX q g P ops Q n (⟨some d, .binOp .gtr t x y t', ty, pos, af, none⟩ :: rest) L H :=
  WX.val (fun a ha w _ => run_bin (ha.ev hx) (ha.ev hy) run_eqGuard_int (by simp [binOp, Op.intCmp])) hd k
theorem WX.geq (hx : ev L x = some (.int kd i)) (hy : ev L y = some (.int kd j)) (hd : Nat.blt d n = true)
    (k : WX q g P ops Q n rest ((d, .bool (decide (j ≤ i))) :: L) H) : WX q g P ops Q n (⟨some d, .binOp .geq t x y t', ty, pos, af, none⟩ :: rest) L H :=
  WX.val (fun a ha w _ => run_bin (ha.ev hx) (ha.ev hy) run_eqGuard_int (by simp [binOp, Op.intCmp])) hd k
theorem WX.eql (hx : ev L x = some (.int kd i)) (hy : ev L y = some (.int kd j)) (hd : Nat.blt d n = true)
    (k : WX q g P ops Q n rest ((d, .bool (decide (i = j))) :: L) H) : WX q g P ops Q n (⟨some d, .binOp .eql t x y t', ty, pos, af, none⟩ :: rest) L H :=
  WX.val (fun a ha w _ => run_bin (ha.ev hx) (ha.ev hy) run_eqGuard_int (by simp [binOp, Op.intCmp]; rfl)) hd k
theorem WX.neq (hx : ev L x = some (.int kd i)) (hy : ev L y = some (.int kd j)) (hd : Nat.blt d n = true)
    (k : WX q g P ops Q n rest ((d, .bool (decide (¬ i = j))) :: L) H) : WX q g P ops Q n (⟨some d, .binOp .neq t x y t', ty, pos, af, none⟩ :: rest) L H :=
  WX.val (fun a ha w _ => run_bin (ha.ev hx) (ha.ev hy) run_eqGuard_int (by simp [binOp, Op.intCmp, bne]; rfl)) hd k
theorem bits_mask (x : Int) (k : Nat) (hk : k < 63) : IntKind.i64.wrap ((BitVec.ofInt 64 x &&& BitVec.ofInt 64 (2 ^ k - 1 : Int)).toNat : Int) = x % (2 ^ k : Nat) := by
  have h1 : (2 : Nat) ^ k ≤ 2 ^ 62 := Nat.pow_le_pow_right (by decide) (by omega)
  have hp : 0 < (2 : Nat) ^ k := Nat.two_pow_pos k
  have hm : ((2 ^ k - 1 : Int)) = ((2 ^ k - 1 : Nat) : Int) := by
    rw [Int.natCast_sub hp]; norm_cast
  have h2 : (BitVec.ofInt 64 (2 ^ k - 1 : Int)).toNat = 2 ^ k - 1 := by
    rw [hm, BitVec.toNat_ofInt]
    have : (((2 ^ k - 1 : Nat) : Int) % ((2 ^ 64 : Nat) : Int)) = ((2 ^ k - 1 : Nat) : Int) := by
      rw [← Int.natCast_emod, Nat.mod_eq_of_lt (by omega)]
    rw [this]; rfl
  rw [BitVec.toNat_and, h2, Nat.and_two_pow_sub_one_eq_mod, BitVec.toNat_ofInt]
  have e1 : (((x % ((2 ^ 64 : Nat) : Int)).toNat % 2 ^ k : Nat) : Int) = x % (2 ^ k : Nat) := by
    rw [Int.natCast_emod, Int.toNat_of_nonneg (Int.emod_nonneg _ (by decide))]
    exact Int.emod_emod_of_dvd _ (by
      have : (2 ^ k : Nat) ∣ 2 ^ 64 := Nat.pow_dvd_pow 2 (by omega)
      exact_mod_cast this)
  rw [e1]
  have l0 : 0 ≤ x % ((2 ^ k : Nat) : Int) := Int.emod_nonneg _ (by omega)
  have l1 : x % ((2 ^ k : Nat) : Int) < ((2 ^ k : Nat) : Int) := Int.emod_lt_of_pos _ (by omega)
  exact IntWalk.i64_in _ (by omega)
/-- x & (2^m - 1). -/
theorem WX.mask (m : Nat) (M : Int) (hx : ev L x = some (.int .i64 i)) (hy : ev L y = some (.int .i64 j)) (hj : j = 2 ^ m - 1) (hm : m < 63) (hM : ((2 ^ m : Nat) : Int) = M) (hd : Nat.blt d n = true)
    (k : WX q g P ops Q n rest ((d, .int .i64 (i % M)) :: L) H) : WX q g P ops Q n (⟨some d, .binOp .and t x y t', ty, pos, af, none⟩ :: rest) L H :=
  WX.val (fun a ha w _ => run_bin (ha.ev hx) (ha.ev hy) run_eqGuard_int (by
    subst hj
    subst hM
    have := bits_mask i m hm
    simp only [binOp, Op.intBits]
    simp only [ne_eq, not_true_eq_false, if_false]
    exact congrArg (fun z => Result.ok (Value.int .i64 z) w) this)) hd k
end ints

-- truth values
section bools
variable {x y : Operand} {t t' : Nat} {b c : Bool}
theorem WX.not (hx : ev L x = some (.bool b)) (hd : Nat.blt d n = true) (k : WX q g P ops Q n rest ((d, .bool (!b)) :: L) H) :
    WX q g P ops Q n (⟨some d, .unOp .not t x, ty, pos, af, none⟩ :: rest) L H :=
  WX.val (fun a ha w _ => by simp [execOp, ha.ev hx, Op.unary]) hd k
theorem WX.notD {p : Prop} [Decidable p] (hx : ev L x = some (.bool (decide p))) (hd : Nat.blt d n = true) (k : WX q g P ops Q n rest ((d, .bool (decide (¬ p))) :: L) H) :
    WX q g P ops Q n (⟨some d, .unOp .not t x, ty, pos, af, none⟩ :: rest) L H :=
  WX.not hx hd (by simpa using k)
theorem WX.eqlB (hx : ev L x = some (.bool b)) (hy : ev L y = some (.bool c)) (hd : Nat.blt d n = true) [ht : TU P t .bool]
    (k : WX q g P ops Q n rest ((d, .bool (b == c)) :: L) H) : WX q g P ops Q n (⟨some d, .binOp .eql t x y t', ty, pos, af, none⟩ :: rest) L H :=
  WX.val (fun a ha w _ => run_bin (ha.ev hx) (ha.ev hy) (by unfold eqGuard; rfl) (by simp [binOp, Op.equal, Op.maxDepth, run_equalIn_bool' w _ t b c ht.h])) hd k
theorem WX.neqB (hx : ev L x = some (.bool b)) (hy : ev L y = some (.bool c)) (hd : Nat.blt d n = true) [ht : TU P t .bool]
    (k : WX q g P ops Q n rest ((d, .bool (!(b == c))) :: L) H) : WX q g P ops Q n (⟨some d, .binOp .neq t x y t', ty, pos, af, none⟩ :: rest) L H :=
  WX.val (fun a ha w _ => run_bin (ha.ev hx) (ha.ev hy) (by unfold eqGuard; rfl) (by simp [binOp, Op.equal, Op.maxDepth, run_equalIn_bool' w _ t b c ht.h])) hd k
end bools

-- pointers against nil
section nils
variable {x y : Operand} {t t' e : Nat} {p : Addr}
theorem run_eqGuard_ptr {op : BinOp} {w : World} {p q : Option Addr} : (eqGuard op t x y (.pointer p) (.pointer q)).run P w = .ok () w := by
  unfold eqGuard; cases op <;> rfl
theorem run_equalIn_ptr {p : Option Addr} {w : World} (k : Nat) [ht : TU P t (.pointer e)] : (Op.equalIn (k + 1) t (.pointer p) (.pointer none)).run P w = .ok p.isNone w := by
  cases p <;> simp [Op.equalIn, ht.run]
theorem run_eql_ptr {p : Option Addr} {w : World} [ht : TU P t (.pointer e)] : (binOp .eql t (.pointer p) (.pointer none)).run P w = .ok (.bool p.isNone) w := by
  show ((do pure (.bool (← Op.equalIn 10000 t (.pointer p) (.pointer none))) : Sem Value)).run P w = _
  rw [Sem.run_bind, run_equalIn_ptr (t := t) (e := e) 9999]; rfl
theorem run_neq_ptr {p : Option Addr} {w : World} [ht : TU P t (.pointer e)] : (binOp .neq t (.pointer p) (.pointer none)).run P w = .ok (.bool (!p.isNone)) w := by
  show ((do pure (.bool (!(← Op.equalIn 10000 t (.pointer p) (.pointer none)))) : Sem Value)).run P w = _
  rw [Sem.run_bind, run_equalIn_ptr (t := t) (e := e) 9999]; rfl
theorem WX.eqPN (hx : ev L x = some (.pointer (some p))) (hy : ev L y = some (.pointer none)) (hd : Nat.blt d n = true) [ht : TU P t (.pointer e)]
    (k : WX q g P ops Q n rest ((d, .bool false) :: L) H) : WX q g P ops Q n (⟨some d, .binOp .eql t x y t', ty, pos, af, none⟩ :: rest) L H :=
  WX.val (fun a ha w _ => run_bin (ha.ev hx) (ha.ev hy) run_eqGuard_ptr (run_eql_ptr (e := e))) hd k
theorem WX.nePN (hx : ev L x = some (.pointer (some p))) (hy : ev L y = some (.pointer none)) (hd : Nat.blt d n = true) [ht : TU P t (.pointer e)]
    (k : WX q g P ops Q n rest ((d, .bool true) :: L) H) : WX q g P ops Q n (⟨some d, .binOp .neq t x y t', ty, pos, af, none⟩ :: rest) L H :=
  WX.val (fun a ha w _ => run_bin (ha.ev hx) (ha.ev hy) run_eqGuard_ptr (run_neq_ptr (e := e))) hd k
theorem WX.eqNN (hx : ev L x = some (.pointer none)) (hy : ev L y = some (.pointer none)) (hd : Nat.blt d n = true) [ht : TU P t (.pointer e)]
    (k : WX q g P ops Q n rest ((d, .bool true) :: L) H) : WX q g P ops Q n (⟨some d, .binOp .eql t x y t', ty, pos, af, none⟩ :: rest) L H :=
  WX.val (fun a ha w _ => run_bin (ha.ev hx) (ha.ev hy) run_eqGuard_ptr (run_eql_ptr (e := e))) hd k
theorem WX.neNN (hx : ev L x = some (.pointer none)) (hy : ev L y = some (.pointer none)) (hd : Nat.blt d n = true) [ht : TU P t (.pointer e)]
    (k : WX q g P ops Q n rest ((d, .bool false) :: L) H) : WX q g P ops Q n (⟨some d, .binOp .neq t x y t', ty, pos, af, none⟩ :: rest) L H :=
  WX.val (fun a ha w _ => run_bin (ha.ev hx) (ha.ev hy) run_eqGuard_ptr (run_neq_ptr (e := e))) hd k
end nils

-- lengths
section lens
variable {x y : Operand} {t : Nat}
theorem run_bi {bi : Builtin} {args : List Operand} {ts : Array TypeId} {a : Act} {vs : List Value} {r : Value} {w w' : World} (hx : args.map a.eval = vs)
    (h : (builtin bi ts ty (args.toArray.map fun | .const _ => true | _ => false) vs.toArray).run P w = .ok (.value r) w') {dst : Option Nat} :
    (execOp a.eval ⟨dst, .call ⟨.builtin bi, args.toArray, ts⟩, ty, pos, af, none⟩).run P w = .ok (.value r) w' := by
  have e : args.toArray.map a.eval = vs.toArray := by rw [← hx]; simp
  simp only [execOp, resolve, e]
  exact h
theorem WX.len {e : Nat} {p : Option Addr} {l c : Nat} (hx : ev L x = some (.slice p l c)) (hd : Nat.blt d n = true) [ht : TU P t (.slice e)] (k : WX q g P ops Q n rest ((d, .int .i64 l) :: L) H) :
    WX q g P ops Q n (⟨some d, .call ⟨.builtin .len, #[x], #[t]⟩, ty, pos, af, none⟩ :: rest) L H :=
  WX.val (fun a ha w _ => run_bi (args := [x]) (by simp [ha.ev hx]; rfl) (by simp [builtin, Builtin.len_, ht.run, goInt])) hd k
theorem WX.lenS {s : ByteArray} (hx : ev L x = some (.string s)) (hd : Nat.blt d n = true) [ht : TU P t .string] (k : WX q g P ops Q n rest ((d, .int .i64 s.size) :: L) H) :
    WX q g P ops Q n (⟨some d, .call ⟨.builtin .len, #[x], #[t]⟩, ty, pos, af, none⟩ :: rest) L H :=
  WX.val (fun a ha w _ => run_bi (args := [x]) (by simp [ha.ev hx]; rfl) (by simp [builtin, Builtin.len_, ht.run, goInt])) hd k
theorem WX.min {i j : Int} {kd : IntKind} {ts : Array TypeId} (hx : ev L x = some (.int kd i)) (hy : ev L y = some (.int kd j)) (hd : Nat.blt d n = true) (k : WX q g P ops Q n rest ((d, .int kd (if j < i then j else i)) :: L) H) :
    WX q g P ops Q n (⟨some d, .call ⟨.builtin .min, #[x, y], ts⟩, ty, pos, af, none⟩ :: rest) L H :=
  WX.val (fun a ha w _ => run_bi (args := [x, y]) (by simp [ha.ev hx, ha.ev hy]; rfl) (by simp [builtin, Builtin.min_, Builtin.min2])) hd k
theorem WX.max {i j : Int} {kd : IntKind} {ts : Array TypeId} (hx : ev L x = some (.int kd i)) (hy : ev L y = some (.int kd j)) (hd : Nat.blt d n = true) (k : WX q g P ops Q n rest ((d, .int kd (if j > i then j else i)) :: L) H) :
    WX q g P ops Q n (⟨some d, .call ⟨.builtin .max, #[x, y], ts⟩, ty, pos, af, none⟩ :: rest) L H :=
  WX.val (fun a ha w _ => run_bi (args := [x, y]) (by simp [ha.ev hx, ha.ev hy]; rfl) (by simp [builtin, Builtin.max_, Builtin.max2])) hd k
end lens

theorem WX.extract {x : Operand} {i : Nat} {vs : List Value} (hx : ev L x = some (.tuple vs.toArray)) (hi : vs[i]? = some v) (hd : Nat.blt d n = true) (k : WX q g P ops Q n rest ((d, v) :: L) H) :
    WX q g P ops Q n (⟨some d, .extract x i, ty, pos, af, none⟩ :: rest) L H :=
  WX.val (fun a ha w _ => by simp [execOp, ha.ev hx, Instr.extract, hi]) hd k

-- conversions
theorem WX.conv {x : Operand} {i : Int} {kd kd' : IntKind} {t t' : Nat} {ds : TypeDesc} (hx : ev L x = some (.int kd i)) (hd : Nat.blt d n = true) [h1 : TU P t ds] [h2 : TU P t' (.int kd')] (r : kd'.wrap i = i)
    (k : WX q g P ops Q n rest ((d, .int kd' i) :: L) H) : WX q g P ops Q n (⟨some d, .convert t t' x, ty, pos, af, none⟩ :: rest) L H :=
  WX.val (fun a ha w _ => by simp [execOp, ha.ev hx, convert, h1.run, h2.run, Conv.intToInt, r]) hd k
theorem WX.convW {x : Operand} {i : Int} {kd kd' : IntKind} {t t' : Nat} {ds : TypeDesc} (hx : ev L x = some (.int kd i)) (hd : Nat.blt d n = true) [h1 : TU P t ds] [h2 : TU P t' (.int kd')]
    (k : WX q g P ops Q n rest ((d, .int kd' (kd'.wrap i)) :: L) H) : WX q g P ops Q n (⟨some d, .convert t t' x, ty, pos, af, none⟩ :: rest) L H :=
  WX.val (fun a ha w _ => by simp [execOp, ha.ev hx, convert, h1.run, h2.run, Conv.intToInt]) hd k

-- addresses
theorem WX.fieldAddr {x : Operand} {t f b i off : Nat} (hx : ev L x = some (.pointer (some ⟨b, i, none⟩))) (hd : Nat.blt d n = true) [h : TF P t f off] (k : WX q g P ops Q n rest ((d, .pointer (some ⟨b, i + off, none⟩)) :: L) H) :
    WX q g P ops Q n (⟨some d, .fieldAddr t x f, ty, pos, af, none⟩ :: rest) L H :=
  WX.val (fun a ha w _ => by
    obtain ⟨fs, fd, h1, h2, h3, k, h4⟩ := h.h
    cases hi : P.info? fd.type with
    | none => simp [hi] at h4
    | some inf =>
      simp [hi] at h4
      simp [execOp, ha.ev hx, Instr.fieldAt, underlying, h1, h2, Instr.sureAddr, fieldPlace, Go.sizeOf, typeInfo, hi, h4, h3, add_none]) hd k

-- loads
theorem WX.loadR {x : Operand} {t : Nat} {p : Addr} (hx : ev L x = some (.pointer (some p))) [ht : TL P t 1 false] (hr : ∀ w, on g H.flatten w → w.cell? p = some v) (hd : Nat.blt d n = true) (k : WX q g P ops Q n rest ((d, v) :: L) H) :
    WX q g P ops Q n (⟨some d, .load t x, ty, pos, af, none⟩ :: rest) L H :=
  WX.val (fun a ha w hw => by simp [execOp, ha.ev hx, Instr.loadAt, Instr.sureAddr, loadVar, ht.isAgg, hr w hw]) hd k
theorem WX.load {x : Operand} {t b i T : Nat} {cs : List Value} {fr : Nat × Nat} {K : Obj → HH} (hx : ev L x = some (.pointer (some ⟨b, i, none⟩))) [ht : TL P t 1 false] [hf : Foc b (.cells (List.toArray cs) T fr) H K]
    (hc : cs[i]? = some v) (hd : Nat.blt d n = true) (k : WX q g P ops Q n rest ((d, v) :: L) H) : WX q g P ops Q n (⟨some d, .load t x, ty, pos, af, none⟩ :: rest) L H :=
  WX.loadR hx (fun w hw => by rw [cell_bk (hf.heap hw), hc]) hd k
theorem WX.loadAR {x : Operand} {t m b i : Nat} {vs : List Value} (hx : ev L x = some (.pointer (some ⟨b, i, none⟩))) [ht : TL P t m true] (hr : ∀ w, on g H.flatten w → ∀ j v, vs[j]? = some v → w.cell? ⟨b, i + j, none⟩ = some v)
    (hl : vs.length = m) (hd : Nat.blt d n = true) (k : WX q g P ops Q n rest ((d, .agg vs.toArray) :: L) H) : WX q g P ops Q n (⟨some d, .load t x, ty, pos, af, none⟩ :: rest) L H :=
  WX.val (fun a ha w hw => by
    subst hl
    have := run_loadCells_list (P := P) w ⟨b, i, none⟩ vs (fun j v e => by rw [add_none]; exact hr w hw j v e)
    simp [execOp, ha.ev hx, Instr.loadAt, Instr.sureAddr, loadVar, ht.isAgg, ht.sizeOf, this]) hd k
theorem WX.loadA {x : Operand} {t m b i T : Nat} {cs vs : List Value} {fr : Nat × Nat} {K : Obj → HH} (hx : ev L x = some (.pointer (some ⟨b, i, none⟩))) [ht : TL P t m true] [hf : Foc b (.cells (List.toArray cs) T fr) H K]
    (hc : (cs.drop i).take m = vs) (hl : vs.length = m) (hd : Nat.blt d n = true) (k : WX q g P ops Q n rest ((d, .agg vs.toArray) :: L) H) : WX q g P ops Q n (⟨some d, .load t x, ty, pos, af, none⟩ :: rest) L H :=
  WX.loadAR hx (fun w hw j v e => by
    rw [cell_bk (hf.heap hw), ← e, ← hc]
    have : j < m := by rw [← hl]; exact (List.getElem?_eq_some_iff.1 e).1
    rw [List.getElem?_take, if_pos this, List.getElem?_drop]) hl hd k

def oneCells (vs : List Value) : Bool := vs.all (·.oneCell')

theorem setCell_heap {w : World} {b i T : Nat} {cs : List Value} {fr : Nat × Nat} {v : Value} (h : w.heap[b]? = some (.cells cs.toArray T fr)) : (w.setCell ⟨b, i, none⟩ v).heap[b]? = some (.cells (cs.set i v).toArray T fr) := by
  simp only [World.setCell, Array.getElem?_modify, if_true, h]
  simp
theorem setCell_amb {w : World} {p : Addr} {v : Value} : Amb w (w.setCell p v) := ⟨rfl, rfl, rfl, by simp [World.setCell]⟩

theorem run_storeCells {b T : Nat} : ∀ (vs : List Value) (i k : Nat) (cs : List Value) (w : World), w.heap[b]? = some (.cells cs.toArray T (0, 0)) → i + k + vs.length ≤ cs.length → oneCells vs = true →
    ∃ w', (storeCells ⟨b, i, none⟩ vs k).run P w = .ok () w' ∧ Amb w w' ∧ w'.heap[b]? = some (.cells (setAt cs (i + k) vs).toArray T (0, 0)) ∧ ∀ j, j ≠ b → w'.heap[j]? = w.heap[j]?
  | [], i, k, cs, w, h, _, _ => ⟨w, by simp [storeCells], Amb.refl w, by simpa [setAt] using h, fun _ _ => rfl⟩
  | v :: vs, i, k, cs, w, h, hl, h1 => by
    simp only [oneCells, List.all_cons, Bool.and_eq_true] at h1
    simp only [List.length_cons] at hl
    have h2 := setCell_heap (i := i + k) (v := v) h
    obtain ⟨w', e1, e2, e3, e4⟩ := run_storeCells vs i (k + 1) (cs.set (i + k) v) (w.setCell ⟨b, i + k, none⟩ v) h2 (by simp; omega) h1.2
    refine ⟨w', ?_, setCell_amb.trans e2, ?_, fun j hj => (e4 j hj).trans ?_⟩
    · have hlt : i + k < cs.length := by omega
      have hr : (store (Addr.add ⟨b, i, none⟩ k) v).run P w = .ok () (w.setCell ⟨b, i + k, none⟩ v) := by
        rw [run_store P w _ v .plain h1.1, add_none, cell_bk h, List.getElem?_eq_getElem hlt, frozen_bk h]; simp
      simp only [storeCells, Sem.run_bind, hr, Result.andThen_ok, e1]
    · simpa [setAt, Nat.add_assoc] using e3
    · exact RowKit.Below.heap_setCell _ _ _ _ hj

theorem WX.storeG {x y : Operand} {t m b i T : Nat} {ag : Bool} {cs vs : List Value} {K : Obj → HH} (hx : ev L x = some (.pointer (some ⟨b, i, none⟩))) (hy : ev L y = some v) (hv : v.cells = vs.toArray) [ht : TL P t m ag]
    [hf : Foc b (.cells (List.toArray cs) T (0, 0)) H K] (hl : vs.length = m) (h1 : oneCells vs = true) (hb : Nat.ble (i + vs.length) cs.length = true) (k : WX false g P ops Q n rest L (K (.cells (List.toArray (setAt cs i vs)) T (0, 0)))) :
    WX false g P ops Q n (⟨none, .store t x y, ty, pos, af, none⟩ :: rest) L H :=
  WX.effS (fun a w ha hw => by
    obtain ⟨w', e1, e2, e3, e4⟩ := run_storeCells (P := P) vs i 0 cs w (hf.heap hw) (by have := Nat.le_of_ble_eq_true hb; omega) h1
    refine ⟨w', _, ?_, hf.set hw e2 e3 e4, k⟩
    simp [execOp, ha.ev hx, ha.ev hy, Instr.storeAt, Instr.sureAddr, storeVar, ht.sizeOf, hv, hl, e1])
theorem WX.store {x y : Operand} {t b i T : Nat} {cs : List Value} {K : Obj → HH} (hx : ev L x = some (.pointer (some ⟨b, i, none⟩))) (hy : ev L y = some v) (h1 : v.oneCell' = true) [ht : TL P t 1 false]
    [hf : Foc b (.cells (List.toArray cs) T (0, 0)) H K] (hb : Nat.blt i cs.length = true) (k : WX false g P ops Q n rest L (K (.cells (List.toArray (cs.set i v)) T (0, 0)))) :
    WX false g P ops Q n (⟨none, .store t x y, ty, pos, af, none⟩ :: rest) L H :=
  WX.storeG (vs := [v]) hx hy (by cases v <;> first | rfl | cases h1) rfl (by simp [oneCells, h1]) (by have := Nat.le_of_ble_eq_true hb; exact Nat.ble_eq_true_of_le this) k

-- new blocks
theorem WX.newv {t : Nat} {vs : List Value} (hr : ∀ a, Fr n L a → ∀ w, on g H.flatten w → (execOp a.eval ⟨some d, op, ty, pos, af, none⟩).run P w = .ok (.value (.pointer (some ⟨w.heap.size, 0, none⟩))) (w.alloc (.cells vs.toArray t (0, 0))))
    (hd : Nat.blt d n = true) (k : ∀ b, WX false g P ops Q n rest ((d, .pointer (some ⟨b, 0, none⟩)) :: L) ([(b, .cells (List.toArray vs) t (0, 0))] :: H)) : WX false g P ops Q n (⟨some d, op, ty, pos, af, none⟩ :: rest) L H :=
  WX.eff hd (fun a w ha hw => ⟨_, _, _, hr a ha w hw, by simpa using hw.alloc _, k _⟩)
theorem WX.box {x : Operand} {t : Nat} {vs : List Value} (hx : ev L x = some v) (hv : v.cells = vs.toArray) (hd : Nat.blt d n = true)
    (k : ∀ b, WX false g P ops Q n rest ((d, .pointer (some ⟨b, 0, none⟩)) :: L) ([(b, .cells (List.toArray vs) t (0, 0))] :: H)) : WX false g P ops Q n (⟨some d, .box t x, ty, pos, af, none⟩ :: rest) L H :=
  WX.newv (fun a ha w hw => by simp [execOp, ha.ev hx, Instr.box, newVar, newRow, hv]) hd k
theorem WX.alloc {t : Nat} {vs : List Value} [hz : TZ P t vs] (hd : Nat.blt d n = true)
    (k : ∀ b, WX false g P ops Q n rest ((d, .pointer (some ⟨b, 0, none⟩)) :: L) ([(b, .cells (List.toArray vs) t (0, 0))] :: H)) : WX false g P ops Q n (⟨some d, .alloc t, ty, pos, af, none⟩ :: rest) L H :=
  WX.newv (fun a ha w hw => by
    obtain ⟨z, h1, h2⟩ := hz.run (w := w)
    simp [execOp, Instr.alloc, newVar, newRow, h1, h2]) hd k

/-- fill, on lists. -/
def fillL (pl : List (Nat × Nat)) : List Value → List (Nat × Value) → Option (List Value)
  | cs, [] => some cs
  | cs, (i, v) :: r => match pl[i]? with
    | none => none
    | some (off, size) => match Nat.beq v.cells.toList.length size && Nat.ble (off + size) cs.length with
      | true => fillL pl (setAt cs off v.cells.toList) r
      | false => none
theorem foldl_setAt' (off : Nat) : ∀ (vs : List Value) (j : Nat) (cells : Array Value), (vs.zipIdx j).foldl (fun (cs : Array Value) (x : Value × Nat) => cs.setIfInBounds (off + x.2) x.1) cells = (setAt cells.toList (off + j) vs).toArray
  | [], j, cells => by simp [setAt]
  | v :: vs, j, cells => by
    simp only [List.zipIdx_cons, List.foldl_cons]
    rw [foldl_setAt' off vs (j + 1)]
    simp [setAt, Nat.add_assoc]
theorem fill_of_fillL (pl : List (Nat × Nat)) : ∀ (ps : List (Nat × Value)) (cs ds : List Value), fillL pl cs ps = some ds → Instr.fill (fun i => pl[i]?) cs.toArray ps = some ds.toArray
  | [], cs, ds, h => by cases h; rfl
  | (i, v) :: r, cs, ds, h => by
    simp only [fillL] at h
    simp only [Instr.fill]
    split at h
    · cases h
    · rename_i off size hp
      rw [hp]
      split at h
      · rename_i hb
        simp only [Bool.and_eq_true] at hb
        have h1 := Nat.eq_of_beq_eq_true hb.1
        have h2 := Nat.le_of_ble_eq_true hb.2
        simp only [Array.length_toList] at h1
        simp only [List.size_toArray]
        rw [if_neg (by rw [h1]; simp; omega)]
        have e : v.cells.zipIdx.foldl (fun (cs : Array Value) (x : Value × Nat) => cs.setIfInBounds (off + x.2) x.1) cs.toArray = (setAt cs off v.cells.toList).toArray := by
          rw [← Array.foldl_toList, Array.toList_zipIdx, foldl_setAt']
          rfl
        rw [e]
        exact fill_of_fillL pl r _ ds h
      · cases h
theorem WX.build {t : Nat} {parts : List (Nat × Operand)} {zs cs : List Value} {pl : List (Nat × Nat)} {vs : List Value} [hz : TZ P t zs] [hp : TP P t pl] (hx : evs L (parts.map (·.2)) = some vs)
    (hf' : fillL pl zs ((parts.map (·.1)).zip vs) = some cs) (hd : Nat.blt d n = true)
    (k : WX q g P ops Q n rest ((d, .agg cs.toArray) :: L) H) : WX q g P ops Q n (⟨some d, .build t parts.toArray, ty, pos, af, none⟩ :: rest) L H :=
  have hf := fill_of_fillL pl _ _ _ hf'
  WX.val (fun a ha w hw => by
    obtain ⟨z, h1, h2⟩ := hz.run (w := w)
    obtain ⟨fs, h3, h4⟩ := hp.h
    have e := ha.evs hx
    have e2 : parts.map (fun x => (x.1, a.eval x.2)) = (parts.map (·.1)).zip vs := by
      rw [← e, List.map_map, List.zip_map', Function.comp_def]
    obtain ⟨i, z', g1, g2, g3⟩ := hz.h
    have hb : P.built t ((parts.map (·.1)).zip vs) = some cs.toArray := by
      simp only [Program.built, g1, g2, h3]
      rw [h4]
      simp only []
      rw [g3, show (fun x => pl.toArray[x]?) = fun i => pl[i]? from funext fun i => by simp]
      exact hf
    have := run_build (P := P) w t (parts.toArray.map fun x => (x.1, a.eval x.2)) cs.toArray (by simpa [e2] using hb)
    simp only [execOp, Sem.run_bind]
    rw [this]; rfl) hd k

-- calls
theorem callFunc_run {f : FuncId} (h : Enters P f) (vs : Array Value) (w : World) : (callFunc f vs).run P w = .ok (.enter f vs) w := by
  obtain ⟨fn, h1, h2, h3⟩ := h.e
  simp only [callFunc, Sem.run_bind, run_program, Result.andThen_ok, h1, h2, h3, Bool.false_eq_true, if_false]
  rfl
theorem exec_call {f : FuncId} {args : List Operand} {ts : Array TypeId} {a : Act} {vs : List Value} {w : World} {dst : Option Nat} (hn : Enters P f) (hx : args.map a.eval = vs) :
    (execOp a.eval ⟨dst, .call ⟨.value (.func f), args.toArray, ts⟩, ty, pos, af, none⟩).run P w = .ok (.enter f vs.toArray) w := by
  have e : args.toArray.map a.eval = vs.toArray := by rw [← hx]; simp
  have e0 : a.eval (.func f) = .func (.func f) #[] #[] := rfl
  simp only [execOp, resolve, e, e0]
  simp [Deferred.ofValue, invoke, callFunc_run hn]
theorem WX.call {f : FuncId} {args : List Operand} {ts : Array TypeId} {vs : List Value} {pre Hr : HH} {post : Value → HH → Prop} (hx : evs L args = some vs) [hn : Enters P f] (hc : Ct P f vs pre post) [pk : Picks pre H Hr]
    (hd : Nat.blt d n = true) (k : ∀ v H', post v H' → WX false g P ops Q n rest ((d, v) :: L) (H' ++ Hr)) : WX false g P ops Q n (⟨some d, .call ⟨.value (.func f), args.toArray, ts⟩, ty, pos, af, none⟩ :: rest) L H := by
  refine .mk fun a w ha hw => ?_
  have hd' : d < n := Nat.le_of_ble_eq_true hd
  refine wpList_plain rfl fun K hK => ?_
  unfold Oper.wp
  rw [exec_call hn (ha.evs hx)]
  refine (hc.calls g Hr.flatten w (hw.perm (by simpa using pk.p))).mono fun e w' ⟨v, H', he, hp, ho⟩ => ?_
  subst he
  exact hK _ _ (k v H' hp _ _ (ha.put hd' v) (by simpa using ho))
theorem WX.callN {f : FuncId} {args : List Operand} {ts : Array TypeId} {vs : List Value} {pre Hr : HH} {post : Value → HH → Prop} (hx : evs L args = some vs) [hn : Enters P f] (hc : Ct P f vs pre post) [pk : Picks pre H Hr]
    (k : ∀ v H', post v H' → WX false g P ops Q n rest L (H' ++ Hr)) : WX false g P ops Q n (⟨none, .call ⟨.value (.func f), args.toArray, ts⟩, ty, pos, af, none⟩ :: rest) L H := by
  refine .mk fun a w ha hw => ?_
  refine wpList_plain rfl fun K hK => ?_
  unfold Oper.wp
  rw [exec_call hn (ha.evs hx)]
  refine (hc.calls g Hr.flatten w (hw.perm (by simpa using pk.p))).mono fun e w' ⟨v, H', he, hp, ho⟩ => ?_
  subst he
  exact hK _ _ (k v H' hp _ _ (ha.putNone v) (by simpa using ho))
/-- A call that only reads: quiet or not. -/
theorem WX.callQ {f : FuncId} {args : List Operand} {ts : Array TypeId} {vs : List Value} {pre Hr : HH} (hx : evs L args = some vs) [hn : Enters P f] (hc : Ct P f vs pre (fun r H' => r = v ∧ H' = pre)) [pk : Picks pre H Hr]
    (hd : Nat.blt d n = true) (k : WX q g P ops Q n rest ((d, v) :: L) H) : WX q g P ops Q n (⟨some d, .call ⟨.value (.func f), args.toArray, ts⟩, ty, pos, af, none⟩ :: rest) L H := by
  have key : ∀ w, on g H.flatten w → Calls P f vs.toArray w (fun e w' => e = .returned v ∧ on g H.flatten w') := fun w hw =>
    (hc.calls g Hr.flatten w (hw.perm (by simpa using pk.p))).mono fun e w' ⟨u, H', he, ⟨h1, h2⟩, ho⟩ => by
      subst h1; subst h2
      exact ⟨he, ho.perm (by simpa using pk.p.symm)⟩
  refine .mk fun a w ha hw => ?_
  have hd' : d < n := Nat.le_of_ble_eq_true hd
  have hk := fun w' hw' => k (a.put (some d) v) w' (ha.put hd' v) hw'
  cases q
  · refine wpList_plain rfl fun K hK => ?_
    unfold Oper.wp
    rw [exec_call hn (ha.evs hx)]
    refine (key w hw).mono fun e w' ⟨he, ho⟩ => ?_
    subst he
    exact hK _ _ (hk w' ho)
  · refine wpQuiet_step fun K hK => ?_
    simp only [Region.wanted, if_true]
    refine ⟨v, fun w' hw' => ?_, hK _ (hk w hw)⟩
    unfold Oper.quietAt
    rw [exec_call hn (ha.evs hx)]
    exact ⟨rfl, key w' hw'⟩

-- results
def resL (L : Fm) : List ResultVar → Option Value
  | [] => some (.tuple #[])
  | [.tmp t] => lk L t
  | _ => none
theorem D.ret0 {fn : Func} {R : Ending → World → Prop} (hr : fn.results = #[]) (h : ∀ w, on g H.flatten w → R (.returned (.tuple #[])) w) : D g (bodyPost P fn R) .ret n L H :=
  .mk fun a w ha hw => ⟨ha.defers, _, results_none hr _ _ _, h w hw⟩
theorem D.end0 {fn : Func} {R : Ending → World → Prop} (hr : fn.results = #[]) (h : ∀ w, on g H.flatten w → R (.returned (.tuple #[])) w) : D g (bodyPost P fn R) .normal n L H :=
  .mk fun a w ha hw => ⟨ha.defers, _, results_none hr _ _ _, h w hw⟩
theorem Fr.getD {a : Act} {t : Nat} {v : Value} (ha : Fr n L a) (h : lk L t = some v) : a.tmps.getD t undef = v := by
  simp [Array.getD_eq_getD_getElem?, ha.get _ _ h]
theorem D.ret1 {fn : Func} {R : Ending → World → Prop} {t : Nat} (hr : fn.results = #[.tmp t]) (hl : lk L t = some v) (h : ∀ w, on g H.flatten w → R (.returned v) w) : D g (bodyPost P fn R) .ret n L H :=
  .mk fun a w ha hw => ⟨ha.defers, _, results_tmp hr _ _ _, by rw [ha.getD hl]; exact h w hw⟩
theorem D.ret2 {fn : Func} {R : Ending → World → Prop} {t u : Nat} {v' : Value} (hr : fn.results = #[.tmp t, .tmp u]) (hl : lk L t = some v) (hl' : lk L u = some v') (h : ∀ w, on g H.flatten w → R (.returned (.tuple #[v, v'])) w) :
    D g (bodyPost P fn R) .ret n L H :=
  .mk fun a w ha hw => ⟨ha.defers, _, results_tmp2 hr _ _ _, by rw [ha.getD hl, ha.getD hl']; exact h w hw⟩
/-- The ends of a contract's walk: no result, one, two. -/
theorem D.fin0 {fn : Func} {post : Value → HH → Prop} {R : Hp} (H' r : HH) (hr : fn.results = #[]) (hp : post (.tuple #[]) H') [k : Picks (H' ++ [R]) H r] : D g (bodyPost P fn (cpost g post R)) .ret n L H :=
  D.ret0 hr fun w hw => ⟨_, H', rfl, hp, (Hsub.of_picks k).on hw⟩
theorem D.finE {fn : Func} {post : Value → HH → Prop} {R : Hp} (H' r : HH) (hr : fn.results = #[]) (hp : post (.tuple #[]) H') [k : Picks (H' ++ [R]) H r] : D g (bodyPost P fn (cpost g post R)) .normal n L H :=
  D.end0 hr fun w hw => ⟨_, H', rfl, hp, (Hsub.of_picks k).on hw⟩
theorem D.fin1 {fn : Func} {post : Value → HH → Prop} {R : Hp} {t : Nat} (H' r : HH) (hr : fn.results = #[.tmp t]) (hl : lk L t = some v) (hp : post v H') [k : Picks (H' ++ [R]) H r] : D g (bodyPost P fn (cpost g post R)) .ret n L H :=
  D.ret1 hr hl fun w hw => ⟨_, H', rfl, hp, (Hsub.of_picks k).on hw⟩
theorem D.fin2 {fn : Func} {post : Value → HH → Prop} {R : Hp} {t u : Nat} {v' : Value} (H' r : HH) (hr : fn.results = #[.tmp t, .tmp u]) (hl : lk L t = some v) (hl' : lk L u = some v') (hp : post (.tuple #[v, v']) H') [k : Picks (H' ++ [R]) H r] :
    D g (bodyPost P fn (cpost g post R)) .ret n L H :=
  D.ret2 hr hl hl' fun w hw => ⟨_, H', rfl, hp, (Hsub.of_picks k).on hw⟩
theorem cpost.mk {post : Value → HH → Prop} {R : Hp} {H'' : HH} {w : World} (H' : HH) (hp : post v H') (s : Hsub H'' (H' ++ [R])) (h : on g H''.flatten w) : cpost g post R (.returned v) w := ⟨v, H', rfl, hp, s.on h⟩
end
end Go.Sl
