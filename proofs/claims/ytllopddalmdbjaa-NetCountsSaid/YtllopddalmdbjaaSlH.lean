/-
  Structs and arrays held against each other; addresses within arrays; results that lie in cells.
-/
import Derived.Test.YtllopddalmdbjaaSlG
import Derived.ChangeKeysEq
set_option linter.unusedVariables false
set_option linter.unusedSimpArgs false
namespace Go.Sl
open Go

inductive CK where
  | i | s | b
  deriving DecidableEq

def cellEq : CK → Value → Value → Option Bool
  | .i, .int k a, .int k' b => if k = k' then some (decide (a = b)) else none
  | .s, .string a, .string b => some (decide (a = b))
  | .b, .bool a, .bool b => some (decide (a = b))
  | _, _, _ => none
def cellsEq : List CK → List Value → List Value → Option Bool
  | [], [], [] => some true
  | k :: ks, x :: xs, y :: ys => match cellEq k x y, cellsEq ks xs ys with
    | some b, some c => some (b && c)
    | _, _ => none
  | _, _, _ => none

def fieldsKinds (P : Program) (rec_ : Nat → Option (List CK)) : Nat → List Field → Option (List CK)
  | _, [] => some []
  | off, fd :: r => match fd.name != "_" && fd.offset == off, rec_ fd.type with
    | true, some ks => if (P.info? fd.type).map (·.size) = some ks.length then (fieldsKinds P rec_ (off + ks.length) r).map (ks ++ ·) else none
    | _, _ => none
def eqKinds (P : Program) : Nat → Nat → Option (List CK)
  | 0, _ => none
  | f + 1, t => match P.underlying t with
    | some (.int _) => some [.i]
    | some .string => some [.s]
    | some .bool => some [.b]
    | some (.struct fs) => if P.stoodInHeld t then none else fieldsKinds P (eqKinds P f) 0 fs.toList
    | some (.array n e) => match eqKinds P f e with
      | some ks => if (P.info? e).map (·.size) = some ks.length then some (List.replicate n ks).flatten else none
      | none => none
    | _ => none

theorem beq_bytes (a b : ByteArray) : (a == b) = decide (a = b) := by
  by_cases h : a = b
  · subst h
    rw [decide_eq_true rfl, beq_toListBytes]; simp
  · rw [decide_eq_false h, beq_toListBytes, ByteArray.toList_eq, ByteArray.toList_eq]
    have : ¬ a.data.toList = b.data.toList := fun e => h (by cases a; cases b; simpa using e)
    simpa using this

theorem cellsEq_len : ∀ (ks : List CK) (xs ys : List Value) (b : Bool), cellsEq ks xs ys = some b → xs.length = ks.length ∧ ys.length = ks.length
  | [], [], [], _, _ => ⟨rfl, rfl⟩
  | [], _ :: _, _, _, h => by simp [cellsEq] at h
  | [], [], _ :: _, _, h => by simp [cellsEq] at h
  | _ :: _, [], _, _, h => by simp [cellsEq] at h
  | _ :: _, _ :: _, [], _, h => by simp [cellsEq] at h
  | k :: ks, x :: xs, y :: ys, b, h => by
    simp only [cellsEq] at h
    split at h
    · rename_i b' c h1 h2
      obtain ⟨e1, e2⟩ := cellsEq_len ks xs ys c h2
      exact ⟨by simp [e1], by simp [e2]⟩
    · cases h
theorem cellsEq_append : ∀ (ks ks' : List CK) (xs ys : List Value) (b : Bool), cellsEq (ks ++ ks') xs ys = some b →
    ∃ c d, cellsEq ks (xs.take ks.length) (ys.take ks.length) = some c ∧ cellsEq ks' (xs.drop ks.length) (ys.drop ks.length) = some d ∧ b = (c && d)
  | [], ks', xs, ys, b, h => ⟨true, b, by simp [cellsEq], by simpa using h, by simp⟩
  | k :: ks, ks', [], ys, b, h => by simp [cellsEq] at h
  | k :: ks, ks', _ :: _, [], b, h => by simp [cellsEq] at h
  | k :: ks, ks', x :: xs, y :: ys, b, h => by
    simp only [List.cons_append, cellsEq] at h
    split at h
    · rename_i b' c h1 h2
      obtain ⟨c', d, e1, e2, e3⟩ := cellsEq_append ks ks' xs ys c h2
      refine ⟨b' && c', d, by simp [cellsEq, h1, e1], by simpa using e2, ?_⟩
      cases h
      rw [e3, Bool.and_assoc]
    · cases h

theorem cellsEq_one {k : CK} {x y : Value} {b : Bool} (h : cellsEq [k] [x] [y] = some b) : cellEq k x y = some b := by
  simp only [cellsEq] at h
  cases hc : cellEq k x y with
  | none => simp [hc] at h
  | some c => simpa [hc] using h
theorem cellEq_i {x y : Value} {b : Bool} (h : cellEq .i x y = some b) : ∃ k a c, x = .int k a ∧ y = .int k c ∧ b = decide (a = c) := by
  cases x <;> cases y <;> simp only [cellEq] at h <;> first | (cases h; done) | skip
  split at h
  · rename_i k a k' c e; subst e; cases h; exact ⟨_, _, _, rfl, rfl, rfl⟩
  · cases h
theorem cellEq_s {x y : Value} {b : Bool} (h : cellEq .s x y = some b) : ∃ a c, x = .string a ∧ y = .string c ∧ b = decide (a = c) := by
  cases x <;> cases y <;> simp only [cellEq] at h <;> first | (cases h; done) | skip
  all_goals (cases h; exact ⟨_, _, rfl, rfl, rfl⟩)
theorem cellEq_b {x y : Value} {b : Bool} (h : cellEq .b x y = some b) : ∃ a c, x = .bool a ∧ y = .bool c ∧ b = decide (a = c) := by
  cases x <;> cases y <;> simp only [cellEq] at h <;> first | (cases h; done) | skip
  all_goals (cases h; exact ⟨_, _, rfl, rfl, rfl⟩)

section
variable {P : Program} {w : World}
theorem info_of {t k : Nat} (h : (P.info? t).map (·.size) = some k) : ∃ i, P.info? t = some i ∧ i.size = k := by
  cases hi : P.info? t with
  | none => simp [hi] at h
  | some i => exact ⟨i, rfl, by simpa [hi] using h⟩
theorem run_size {t k : Nat} (h : (P.info? t).map (·.size) = some k) : (sizeOf t).run P w = .ok k w := by
  obtain ⟨i, h1, h2⟩ := info_of h
  simp [Go.sizeOf, typeInfo, h1, h2]

/-- 'part' at a type of so many cells, of whichever make. -/
def PartAt (P : Program) (t : Nat) (xs : List Value) (v : Value) : Prop := match (P.underlying t).map aggOf with
  | some true => v = .agg xs.toArray
  | some false => xs = [v]
  | none => False
theorem part_at {t off : Nat} {pre mid post : List Value} (hu : ((P.underlying t).map aggOf).isSome = true) (hs : (P.info? t).map (·.size) = some mid.length) (h1 : ((P.underlying t).map aggOf) = some false → mid.length = 1) (hp : pre.length = off) :
    ∃ v, (part t (List.toArray (pre ++ mid ++ post)) off).run P w = .ok v w ∧ PartAt P t mid v := by
  cases hd : P.underlying t with
  | none => simp [hd] at hu
  | some d =>
    have hsz := run_size (P := P) (w := w) hs
    cases ha : aggOf d with
    | true =>
      have hagg : (isAgg t).run P w = .ok true w := by cases d <;> simp [aggOf] at ha <;> simp [isAgg, underlying, hd]
      refine ⟨.agg mid.toArray, ?_, by simp [PartAt, hd, ha]⟩
      simp only [part, Sem.run_bind, hagg, Result.andThen_ok, if_true, hsz, Sem.run_pure]
      congr 2
      apply Array.toList_inj.1
      subst hp
      simp [List.append_assoc]
    | false =>
      have hagg : (isAgg t).run P w = .ok false w := by cases d <;> simp [aggOf] at ha <;> simp [isAgg, underlying, hd]
      have hl := h1 (by simp [hd, ha])
      match mid, hl with
      | [v], _ =>
        refine ⟨v, ?_, by simp [PartAt, hd, ha]⟩
        have hg : (List.toArray (pre ++ [v] ++ post))[off]? = some v := by
          subst hp; simp [List.append_assoc]
        simp only [part, Sem.run_bind, hagg, Result.andThen_ok, Bool.false_eq_true, if_false]
        rw [hg]; rfl

/-- What 'equal' answers at a type whose cells are of these kinds. -/
def EqAt (P : Program) (t f : Nat) (ks : List CK) : Prop :=
  ((P.underlying t).map aggOf).isSome = true ∧ ((P.underlying t).map aggOf = some false → ks.length = 1) ∧
  ∀ (d : Nat) (xs ys : List Value) (x y : Value) (b : Bool) (w : World), f ≤ d → PartAt P t xs x → PartAt P t ys y → cellsEq ks xs ys = some b → (Op.equalIn d t x y).run P w = .ok b w

theorem eqFields_run (rec_ : Nat → Option (List CK)) (f : Nat) (hrec : ∀ t ks, rec_ t = some ks → EqAt P t f ks) (d : Nat) (hd : f ≤ d) : ∀ (fs : List Field) (off : Nat) (ks : List CK), fieldsKinds P rec_ off fs = some ks →
    ∀ (pre pre' mid mid' : List Value) (b : Bool) (w : World), pre.length = off → pre'.length = off → cellsEq ks mid mid' = some b → (Op.eqFields d (List.toArray (pre ++ mid)) (List.toArray (pre' ++ mid')) fs).run P w = .ok b w
  | [], off, ks, h, pre, pre', mid, mid', b, w, _, _, hc => by
    cases h
    match mid, mid', hc with
    | [], [], hc => cases hc; simp [Op.eqFields]
  | fd :: r, off, ks, h, pre, pre', mid, mid', b, w, hp, hp', hc => by
    simp only [fieldsKinds] at h
    split at h
    · rename_i ks1 hb hr
      split at h
      · rename_i hsz
        simp only [Option.map_eq_some_iff] at h
        obtain ⟨ks2, hks2, rfl⟩ := h
        simp only [Bool.and_eq_true, bne_iff_ne, beq_iff_eq] at hb
        obtain ⟨hname, hoff⟩ := hb
        obtain ⟨c, e, h1, h2, rfl⟩ := cellsEq_append ks1 ks2 mid mid' b hc
        obtain ⟨l1, l2⟩ := cellsEq_len _ _ _ _ h1
        obtain ⟨q1, q2, q3⟩ := hrec fd.type ks1 hr
        obtain ⟨x, hx, px⟩ := part_at (P := P) (w := w) (t := fd.type) (off := fd.offset) (pre := pre) (mid := mid.take ks1.length) (post := mid.drop ks1.length) q1 (by rw [l1]; exact hsz) (fun h => by rw [l1]; exact q2 h) (by rw [hp, hoff])
        obtain ⟨y, hy, py⟩ := part_at (P := P) (w := w) (t := fd.type) (off := fd.offset) (pre := pre') (mid := mid'.take ks1.length) (post := mid'.drop ks1.length) q1 (by rw [l2]; exact hsz) (fun h => by rw [l2]; exact q2 h) (by rw [hp', hoff])
        rw [List.append_assoc, List.take_append_drop] at hx hy
        have heq := q3 d _ _ x y c w hd px py h1
        have ih := eqFields_run rec_ f hrec d hd r (off + ks1.length) ks2 hks2 (pre ++ mid.take ks1.length) (pre' ++ mid'.take ks1.length) (mid.drop ks1.length) (mid'.drop ks1.length) e w (by simp only [List.length_append, l1, hp]) (by simp only [List.length_append, l2, hp']) h2
        rw [List.append_assoc, List.take_append_drop, List.append_assoc, List.take_append_drop] at ih
        simp only [Op.eqFields]
        rw [if_pos hname]
        simp only [Sem.run_bind, hx, hy, heq, Result.andThen_ok]
        cases c
        · simp
        · simpa using ih
      · cases h
    · cases h

theorem eqItems_run {e f d : Nat} {ks : List CK} (h : EqAt P e f ks) (hsz : (P.info? e).map (·.size) = some ks.length) (hd : f ≤ d) : ∀ (n k : Nat) (pre pre' mid mid' : List Value) (b : Bool) (w : World), pre.length = k * ks.length → pre'.length = k * ks.length →
    cellsEq (List.replicate n ks).flatten mid mid' = some b → (Op.eqItems d e ks.length (List.toArray (pre ++ mid)) (List.toArray (pre' ++ mid')) (List.range' k n)).run P w = .ok b w
  | 0, k, pre, pre', mid, mid', b, w, _, _, hc => by
    match mid, mid', hc with
    | [], [], hc => cases hc; simp [Op.eqItems]
  | n + 1, k, pre, pre', mid, mid', b, w, hp, hp', hc => by
    rw [List.replicate_succ, List.flatten_cons] at hc
    obtain ⟨c, c2, h1, h2, rfl⟩ := cellsEq_append ks _ mid mid' b hc
    obtain ⟨l1, l2⟩ := cellsEq_len _ _ _ _ h1
    obtain ⟨q1, q2, q3⟩ := h
    obtain ⟨x, hx, px⟩ := part_at (P := P) (w := w) (t := e) (off := k * ks.length) (pre := pre) (mid := mid.take ks.length) (post := mid.drop ks.length) q1 (by rw [l1]; exact hsz) (fun h => by rw [l1]; exact q2 h) hp
    obtain ⟨y, hy, py⟩ := part_at (P := P) (w := w) (t := e) (off := k * ks.length) (pre := pre') (mid := mid'.take ks.length) (post := mid'.drop ks.length) q1 (by rw [l2]; exact hsz) (fun h => by rw [l2]; exact q2 h) hp'
    rw [List.append_assoc, List.take_append_drop] at hx hy
    have heq := q3 d _ _ x y c w hd px py h1
    have ih := eqItems_run ⟨q1, q2, q3⟩ hsz hd n (k + 1) (pre ++ mid.take ks.length) (pre' ++ mid'.take ks.length) (mid.drop ks.length) (mid'.drop ks.length) c2 w (by simp only [List.length_append, l1, hp, Nat.succ_mul]) (by simp only [List.length_append, l2, hp', Nat.succ_mul]) h2
    rw [List.append_assoc, List.take_append_drop, List.append_assoc, List.take_append_drop] at ih
    simp only [List.range'_succ, Op.eqItems, Sem.run_bind, hx, hy, heq, Result.andThen_ok]
    cases c
    · simp
    · simpa using ih

theorem eqAt_of : ∀ (f t : Nat) (ks : List CK), eqKinds P f t = some ks → EqAt P t f ks
  | 0, _, _, h => by cases h
  | f + 1, t, ks, h => by
    simp only [eqKinds] at h
    split at h
    · rename_i k hu
      cases h
      refine ⟨by simp [hu], fun _ => rfl, fun d xs ys x y b w hd px py hc => ?_⟩
      simp only [PartAt, hu, Option.map_some, aggOf] at px py
      subst px; subst py
      obtain ⟨m, rfl⟩ : ∃ m, d = m + 1 := ⟨d - 1, by omega⟩
      obtain ⟨k', a, c, rfl, rfl, rfl⟩ := cellEq_i (cellsEq_one hc)
      rw [run_equalIn_int w m t k' k _ _ hu]
      congr 1
    · rename_i hu
      cases h
      refine ⟨by simp [hu], fun _ => rfl, fun d xs ys x y b w hd px py hc => ?_⟩
      simp only [PartAt, hu, Option.map_some, aggOf] at px py
      subst px; subst py
      obtain ⟨m, rfl⟩ : ∃ m, d = m + 1 := ⟨d - 1, by omega⟩
      obtain ⟨a, c, rfl, rfl, rfl⟩ := cellEq_s (cellsEq_one hc)
      rw [run_equalIn_string w m t _ _ hu, ← beq_toListBytes, beq_bytes]
    · rename_i hu
      cases h
      refine ⟨by simp [hu], fun _ => rfl, fun d xs ys x y b w hd px py hc => ?_⟩
      simp only [PartAt, hu, Option.map_some, aggOf] at px py
      subst px; subst py
      obtain ⟨m, rfl⟩ : ∃ m, d = m + 1 := ⟨d - 1, by omega⟩
      obtain ⟨b1, b2, rfl, rfl, rfl⟩ := cellEq_b (cellsEq_one hc)
      rw [run_equalIn_bool' w m t _ _ hu]
      cases b1 <;> cases b2 <;> rfl
    · rename_i fs hu
      split at h
      · cases h
      · rename_i hst
        refine ⟨by simp [hu], fun h => by simp [hu, aggOf] at h, fun d xs ys x y b w hd px py hc => ?_⟩
        simp only [PartAt, hu, Option.map_some, aggOf] at px py
        subst px; subst py
        obtain ⟨m, rfl⟩ : ∃ m, d = m + 1 := ⟨d - 1, by omega⟩
        have hfs : P.fieldsOf t = fs := by simp [Program.fieldsOf, hu]
        rw [run_equalIn_struct w m t _ _ (by rw [hfs]; exact hu) (by simpa using hst), hfs]
        have := eqFields_run (P := P) (eqKinds P f) f (fun t ks h => eqAt_of f t ks h) m (by omega) fs.toList 0 ks h [] [] xs ys b w rfl rfl hc
        simpa using this
    · rename_i n e hu
      split at h
      · rename_i ks1 hk
        split at h
        · rename_i hsz
          cases h
          refine ⟨by simp [hu], fun h => by simp [hu, aggOf] at h, fun d xs ys x y b w hd px py hc => ?_⟩
          simp only [PartAt, hu, Option.map_some, aggOf] at px py
          subst px; subst py
          obtain ⟨m, rfl⟩ : ∃ m, d = m + 1 := ⟨d - 1, by omega⟩
          obtain ⟨i, hi, hi2⟩ := info_of hsz
          have hcs : P.cellsOf e = ks1.length := by simp [Program.cellsOf, hi, hi2]
          rw [run_equalIn_array (w := w) m _ _ hu hi, hcs, List.range_eq_range']
          have := eqItems_run (P := P) (eqAt_of f e ks1 hk) hsz (d := m) (by omega) n 0 [] [] xs ys b w (by simp) (by simp) hc
          simpa using this
        · cases h
      · cases h
    · cases h
end

/-- The cells' kinds of a struct or an array that may be held against another one. -/
class TE (P : Program) (t : Nat) (ks : outParam (List CK)) : Prop where
  h : eqKinds P 20 t = some ks
  g : P.eqGuardType P.depth t = false
  a : (P.underlying t).map aggOf = some true

section
variable {g : World} {P : Program} {ops : Array Oper} {Q : Exit → Act → World → Prop} {n : Nat} {rest : List Oper} {L : Fm} {H : HH} {q : Bool}
variable {d : Nat} {ty : TypeId} {pos : String} {af : Array Edge} {v : Value}
theorem WX.eqlA {x y : Operand} {t t' : Nat} {ks : List CK} {xs ys : List Value} {b : Bool} (hx : ev L x = some (.agg xs.toArray)) (hy : ev L y = some (.agg ys.toArray)) [te : TE P t ks] (hc : cellsEq ks xs ys = some b) (hd : Nat.blt d n = true)
    (k : WX q g P ops Q n rest ((d, .bool b) :: L) H) : WX q g P ops Q n (⟨some d, .binOp .eql t x y t', ty, pos, af, none⟩ :: rest) L H :=
  WX.val (fun a ha w _ => run_bin (vx := .agg xs.toArray) (vy := .agg ys.toArray) (ha.ev hx) (ha.ev hy) (run_eqGuard_agg w _ t x y _ _ te.g) (by
    have := (eqAt_of 20 t ks te.h).2.2 10000 xs ys (.agg xs.toArray) (.agg ys.toArray) b w (by omega) (by simp [PartAt, te.a]) (by simp [PartAt, te.a]) hc
    rw [run_eql_struct, this]; rfl)) hd k
theorem WX.neqA {x y : Operand} {t t' : Nat} {ks : List CK} {xs ys : List Value} {b : Bool} (hx : ev L x = some (.agg xs.toArray)) (hy : ev L y = some (.agg ys.toArray)) [te : TE P t ks] (hc : cellsEq ks xs ys = some b) (hd : Nat.blt d n = true)
    (k : WX q g P ops Q n rest ((d, .bool (!b)) :: L) H) : WX q g P ops Q n (⟨some d, .binOp .neq t x y t', ty, pos, af, none⟩ :: rest) L H :=
  WX.val (fun a ha w _ => run_bin (vx := .agg xs.toArray) (vy := .agg ys.toArray) (ha.ev hx) (ha.ev hy) (run_eqGuard_agg w _ t x y _ _ te.g) (by
    have := (eqAt_of 20 t ks te.h).2.2 10000 xs ys (.agg xs.toArray) (.agg ys.toArray) b w (by omega) (by simp [PartAt, te.a]) (by simp [PartAt, te.a]) hc
    rw [run_neq_struct, this]; rfl)) hd k

/-- An element of an array behind a pointer. -/
theorem WX.idxP {x i : Operand} {t e m len b off : Nat} {j : Int} {ag : Bool} {kd : IntKind} (hx : ev L x = some (.pointer (some ⟨b, off, none⟩))) (hi : ev L i = some (.int kd j)) [ht : TU P t (.array len e)] [hl : TL P e m ag] (h0 : 0 ≤ j ∧ j < len)
    (hd : Nat.blt d n = true) (kk : WX q g P ops Q n rest ((d, .pointer (some ⟨b, off + j.toNat * m, none⟩)) :: L) H) : WX q g P ops Q n (⟨some d, .indexAddr t x i, ty, pos, af, none⟩ :: rest) L H :=
  WX.val (fun a ha w hw => by
    simp [execOp, ha.ev hx, ha.ev hi, Instr.indexAt, asIntOf, ht.run, hl.sizeOf, Instr.sureAddr, h0.1, h0.2, add_none]) hd kk

/-- All cells are written over. -/
theorem setAt_whole {zs vs : List Value} (h : zs.length = vs.length) : setAt zs 0 vs = vs := by simpa using setAt_all vs zs 0 [] rfl h
/-- What is guarded by what was not run is not run. -/
theorem WX.gu {op : Op} {j t : Nat} {want : Bool} (hj : (ops[j]?).bind (·.dst) = some t) (ht : lk L t = some undef) (hd : Nat.blt d n = true) (k : WX q g P ops Q n rest ((d, undef) :: L) H) :
    WX q g P ops Q n (⟨some d, op, ty, pos, af, some (j, want)⟩ :: rest) L H := by
  refine .mk fun a w ha hw => ?_
  have hd' : d < n := Nat.le_of_ble_eq_true hd
  have hy : (yielded ops a.tmps j == some want) = false := by simp [yielded, hj, ha.get _ _ ht, undef]
  have := k (a.put (some d) undef) w (ha.put hd' undef) hw
  unfold wxr at this ⊢
  cases q
  · simp only [wpList, Region.wanted, hy, Bool.false_eq_true, if_false] at this ⊢
    exact this
  · refine wpQuiet_step fun K hK => ?_
    simp only [Region.wanted, hy, Bool.false_eq_true, if_false]
    exact hK _ this
theorem WX.guN {op : Op} {j t : Nat} {want : Bool} (hj : (ops[j]?).bind (·.dst) = some t) (ht : lk L t = some undef) (k : WX q g P ops Q n rest L H) :
    WX q g P ops Q n (⟨none, op, ty, pos, af, some (j, want)⟩ :: rest) L H := by
  refine .mk fun a w ha hw => ?_
  have hy : (yielded ops a.tmps j == some want) = false := by simp [yielded, hj, ha.get _ _ ht, undef]
  have := k a w ha hw
  unfold wxr at this ⊢
  cases q
  · simp only [wpList, Region.wanted, hy, Bool.false_eq_true, if_false] at this ⊢
    exact this
  · refine wpQuiet_step fun K hK => ?_
    simp only [Region.wanted, hy, Bool.false_eq_true, if_false]
    exact hK _ this
/-- A whole element. -/
theorem WX.loadEW {α : Type} [Enc α] {x : Operand} {t ms k : Nat} {xs : List α} {y : α} {h : Hp} {K : Hp → HH} (hx : ev L x = some (eptr v k ms 0)) (hs : Rs xs v h) (hk : xs[k]? = some y) (hms : ms = Enc.sz α) [ht : TL P t ms true] [hw : Swp h H K]
    (hd : Nat.blt d n = true) (kk : WX q g P ops Q n rest ((d, .agg (Enc.enc y).toArray) :: L) H) : WX q g P ops Q n (⟨some d, .load t x, ty, pos, af, none⟩ :: rest) L H :=
  WX.loadEA hx hs hk hms (by rw [List.drop_zero, hms, ← Enc.len y, List.take_length]) (by rw [hms, Enc.len]) hd kk

-- results in cells: the one that comes first, an aggregate; a temporary behind it
theorem results_cellA {fn : Func} {tmps : Array Value} {w : World} {c u T : Nat} {p : Addr} {r : Value} (hr : fn.results = #[.cell c T, .tmp u]) (hp : tmps.getD c undef = .pointer (some p)) (hl : (loadVar T p).run P w = .ok r w) :
    (results fn tmps).run P w = .ok (.tuple #[r, tmps.getD u undef]) w := by
  rw [Array.getD_eq_getD_getElem?] at hp
  simp [results, hr, hp, hl, asAddr]
theorem D.finCT {fn : Func} {post : Value → HH → Prop} {R : Hp} {c u b T T' m : Nat} {fr : Nat × Nat} {vs : List Value} {v' : Value} (H' r : HH) (hr : fn.results = #[.cell c T, .tmp u]) {K : Obj → HH}
    (hl : lk L c = some (.pointer (some ⟨b, 0, none⟩))) (hl' : lk L u = some v') [ht : TL P T m true] [hf : Foc b (.cells (List.toArray vs) T' fr) H K] (hm : vs.length = m)
    (hp : post (.tuple #[.agg vs.toArray, v']) H') [k : Picks (H' ++ [R]) H r] : D g (bodyPost P fn (cpost g post R)) .ret n L H :=
  .mk fun a w ha hw => by
    have h1 : (loadVar T ⟨b, 0, none⟩).run P w = .ok (.agg vs.toArray) w := by
      subst hm
      have := run_loadCells_list (P := P) w ⟨b, 0, none⟩ vs (fun j v e => by rw [add_none]; rw [Nat.zero_add, cell_bk (hf.heap hw)]; exact e)
      simp [loadVar, ht.isAgg, ht.sizeOf, this]
    refine ⟨ha.defers, .tuple #[.agg vs.toArray, v'], ?_, ⟨_, H', rfl, hp, (Hsub.of_picks k).on hw⟩⟩
    rw [results_cellA hr (ha.getD hl) h1, ha.getD hl']
end
end Go.Sl
