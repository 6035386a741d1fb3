/-
  The rules again, under short names, with side conditions that fill themselves: for scripts.
-/
import Derived.Test.YtllopddalmdbjaaSlJ
set_option linter.unusedVariables false
set_option linter.unusedSimpArgs false
namespace Go.Sl
open Go

/-- What is left of a goal of control. -/
class Go1 (G : Prop) (S : outParam Prop) : Prop where
  h : S → G
theorem go {G S : Prop} [i : Go1 G S] (h : S) : G := i.h h

section
variable {g : World} {P : Program} {ops : Array Oper} {Q : Exit → Act → World → Prop} {n : Nat} {rest os tail : List Oper} {L : Fm} {H Hc : HH} {q : Bool} {z : List (Bool × Oper)} {o : Oper}
variable {d : Nat} {ty : TypeId} {pos : String} {af : Array Edge} {v : Value}

instance {x y : Code} : Go1 (W g P (.seq x y) Q n L H) (W g P x (Exit.then (y.wp P Q) Q) n L H) := ⟨W.seq⟩
instance {id : Nat} {l : List Oper} : Go1 (W g P (.region id l.toArray false) Q n L H) (WX false g P l.toArray Q n l L H) := ⟨W.region⟩
instance : Go1 (WX q g P ops Q n [] L H) (D g Q .normal n L H) := ⟨WX.nil⟩
instance {y : Code} : Go1 (D g (Exit.then (y.wp P Q) Q) .normal n L H) (W g P y Q n L H) := ⟨D.seq⟩
instance {id : Nat} {c : Code} : Go1 (W g P (.block id c) Q n L H) (W g P c (Exit.inBlock id Q) n L H) := ⟨W.block⟩
instance {id : Nat} : Go1 (D g (Exit.inBlock id Q) .normal n L H) (D g Q .normal n L H) := ⟨D.blk⟩
instance : Go1 (W g P .skip Q n L H) (D g Q .normal n L H) := ⟨W.skip⟩
instance {id : Nat} : Go1 (W g P (.exit id) Q n L H) (D g Q (.exit id) n L H) := ⟨W.exit⟩
instance : Go1 (W g P .ret Q n L H) (D g Q .ret n L H) := ⟨W.ret⟩
instance : Go1 (D g (Qun g P ops Q Hc tail z H) .normal n L Hc) (WM g P ops Q n Hc tail z L H) := ⟨WM.backU⟩
instance {r : HH} [k : Picks Hc H r] : Go1 (D g (Qan g P ops Q Hc tail z) .normal n L H) (WM g P ops Q n Hc tail z L H) := ⟨WM.back⟩
instance {id : Nat} : Go1 (D g (Exit.inBlock id Q) (.exit id) n L H) (D g Q .normal n L H) := ⟨D.blkX⟩
instance {N : Act → World → Prop} {id : Nat} : Go1 (D g (Exit.then N Q) (.exit id) n L H) (D g Q (.exit id) n L H) := ⟨D.roundX⟩
instance {N : Act → World → Prop} : Go1 (D g (Exit.then N Q) .ret n L H) (D g Q .ret n L H) := ⟨D.roundR⟩
instance {id : Nat} : Go1 (D g (Exit.inBlock id Q) .ret n L H) (D g Q .ret n L H) := ⟨D.blkR⟩

theorem zY {id id' : Nat} (h : D g Q (.exit id') n L H) (ne : Nat.beq id' id = false := by exact rfl) : D g (Exit.inBlock id Q) (.exit id') n L H := D.blkY ne h
theorem mN (h : WX false g P ops Q n tail L H) : WM g P ops Q n Hc tail [] L H := WM.nil h
theorem mU {r : HH} [nv : NV P o] [k : Picks Hc H r] (h : WX true g P ops (Qun g P ops Q Hc tail z H) n [o] L Hc) : WM g P ops Q n Hc tail ((true, o) :: z) L H := WM.un h
theorem mA [nd : ND P o] (h : WX false g P ops (Qan g P ops Q Hc tail z) n [o] L H) : WM g P ops Q n Hc tail ((false, o) :: z) L H := WM.an h

-- conditions
section conds
variable {c : Operand} {x y : Code} {p : Prop} [Decidable p]
theorem cT (h : W g P x Q n L H) (hc : ev L c = some (.bool true) := by exact rfl) : W g P (.cond c x y) Q n L H := W.condT hc h
theorem cF (h : W g P y Q n L H) (hc : ev L c = some (.bool false) := by exact rfl) : W g P (.cond c x y) Q n L H := W.condF hc h
theorem cP (h : W g P x Q n L H) (hc : ev L c = some (.bool (decide p)) := by exact rfl) (hp : p := by first | assumption | omega) : W g P (.cond c x y) Q n L H := W.condP hc hp h
theorem cN (h : W g P y Q n L H) (hc : ev L c = some (.bool (decide p)) := by exact rfl) (hp : ¬ p := by first | assumption | omega) : W g P (.cond c x y) Q n L H := W.condN hc hp h
end conds

-- guards
section guards
variable {dst : Option Tmp} {op : Op} {j t : Nat} {want b : Bool} {p : Prop} [Decidable p]
theorem gy (k : WX q g P ops Q n (⟨dst, op, ty, pos, af, none⟩ :: rest) L H) (hj : (ops[j]?).bind (·.dst) = some t := by exact rfl) (ht : lk L t = some (.bool want) := by exact rfl) :
    WX q g P ops Q n (⟨dst, op, ty, pos, af, some (j, want)⟩ :: rest) L H := WX.gy hj ht k
theorem gn (k : WX q g P ops Q n rest ((d, undef) :: L) H) (hj : (ops[j]?).bind (·.dst) = some t := by exact rfl) (ht : lk L t = some (.bool b) := by exact rfl) (hne : (b == want) = false := by exact rfl) (hd : Nat.blt d n = true := by exact rfl) :
    WX q g P ops Q n (⟨some d, op, ty, pos, af, some (j, want)⟩ :: rest) L H := WX.gn hj ht hne hd k
theorem gnN (k : WX q g P ops Q n rest L H) (hj : (ops[j]?).bind (·.dst) = some t := by exact rfl) (ht : lk L t = some (.bool b) := by exact rfl) (hne : (b == want) = false := by exact rfl) :
    WX q g P ops Q n (⟨none, op, ty, pos, af, some (j, want)⟩ :: rest) L H := WX.gnN hj ht hne k
theorem gu (k : WX q g P ops Q n rest ((d, undef) :: L) H) (hj : (ops[j]?).bind (·.dst) = some t := by exact rfl) (ht : lk L t = some undef := by exact rfl) (hd : Nat.blt d n = true := by exact rfl) :
    WX q g P ops Q n (⟨some d, op, ty, pos, af, some (j, want)⟩ :: rest) L H := WX.gu hj ht hd k
theorem guN (k : WX q g P ops Q n rest L H) (hj : (ops[j]?).bind (·.dst) = some t := by exact rfl) (ht : lk L t = some undef := by exact rfl) :
    WX q g P ops Q n (⟨none, op, ty, pos, af, some (j, want)⟩ :: rest) L H := WX.guN hj ht k
theorem gT (k : WX q g P ops Q n (⟨dst, op, ty, pos, af, some (j, want)⟩ :: rest) ((t, .bool true) :: L) H) (hj : (ops[j]?).bind (·.dst) = some t := by exact rfl) (ht : lk L t = some (.bool (decide p)) := by exact rfl)
    (hp : p := by first | assumption | omega) : WX q g P ops Q n (⟨dst, op, ty, pos, af, some (j, want)⟩ :: rest) L H := WX.gT hj ht hp k
theorem gF (k : WX q g P ops Q n (⟨dst, op, ty, pos, af, some (j, want)⟩ :: rest) ((t, .bool false) :: L) H) (hj : (ops[j]?).bind (·.dst) = some t := by exact rfl) (ht : lk L t = some (.bool (decide p)) := by exact rfl)
    (hp : ¬ p := by first | assumption | omega) : WX q g P ops Q n (⟨dst, op, ty, pos, af, some (j, want)⟩ :: rest) L H := WX.gF hj ht hp k
theorem gS (k1 : p → WX q g P ops Q n (⟨dst, op, ty, pos, af, some (j, want)⟩ :: rest) ((t, .bool true) :: L) H) (k2 : ¬ p → WX q g P ops Q n (⟨dst, op, ty, pos, af, some (j, want)⟩ :: rest) ((t, .bool false) :: L) H)
    (hj : (ops[j]?).bind (·.dst) = some t := by exact rfl) (ht : lk L t = some (.bool (decide p)) := by exact rfl) : WX q g P ops Q n (⟨dst, op, ty, pos, af, some (j, want)⟩ :: rest) L H := WX.gS hj ht k1 k2
end guards

-- values
section vals
variable {x y c : Operand} {t t' : Nat}
theorem mv (k : WX q g P ops Q n rest ((d, v) :: L) H) (hx : ev L x = some v := by exact rfl) (hd : Nat.blt d n = true := by exact rfl) : WX q g P ops Q n (⟨some d, .move x, ty, pos, af, none⟩ :: rest) L H := WX.move hx hd k
theorem asg (k : WX q g P ops Q n rest ((d, v) :: L) H) (hx : ev L x = some v := by exact rfl) (hd : Nat.blt d n = true := by exact rfl) : WX q g P ops Q n (⟨some d, .assign x, ty, pos, af, none⟩ :: rest) L H := WX.assign hx hd k
theorem pT (k : WX q g P ops Q n rest ((d, v) :: L) H) (hc : ev L c = some (.bool true) := by exact rfl) (hx : ev L x = some v := by exact rfl) (hd : Nat.blt d n = true := by exact rfl) : WX q g P ops Q n (⟨some d, .pick c x y, ty, pos, af, none⟩ :: rest) L H := WX.pickT hc hx hd k
theorem pF (k : WX q g P ops Q n rest ((d, v) :: L) H) (hc : ev L c = some (.bool false) := by exact rfl) (hx : ev L y = some v := by exact rfl) (hd : Nat.blt d n = true := by exact rfl) : WX q g P ops Q n (⟨some d, .pick c x y, ty, pos, af, none⟩ :: rest) L H := WX.pickF hc hx hd k
theorem nc {p : Addr} (k : WX q g P ops Q n rest ((d, .pointer (some p)) :: L) H) (hx : ev L x = some (.pointer (some p)) := by exact rfl) (hd : Nat.blt d n = true := by exact rfl) : WX q g P ops Q n (⟨some d, .nilCheck x, ty, pos, af, none⟩ :: rest) L H := WX.nilCheck hx hd k
theorem fa {f b i off : Nat} [h : TF P t f off] (k : WX q g P ops Q n rest ((d, .pointer (some ⟨b, i + off, none⟩)) :: L) H) (hx : ev L x = some (.pointer (some ⟨b, i, none⟩)) := by exact rfl) (hd : Nat.blt d n = true := by exact rfl) :
    WX q g P ops Q n (⟨some d, .fieldAddr t x f, ty, pos, af, none⟩ :: rest) L H := WX.fieldAddr hx hd k
/-- What a comparison of numbers yields. -/
class CmpV (bo : BinOp) (i j : Int) (v : outParam Value) : Prop where
  h : ∀ {g : World} {P : Program} {ops : Array Oper} {Q : Exit → Act → World → Prop} {n : Nat} {rest : List Oper} {L : Fm} {H : HH} {q : Bool} {d : Nat} {ty : TypeId} {pos : String} {af : Array Edge} {x y : Operand} {t t' : Nat} {kd : IntKind},
    ev L x = some (.int kd i) → ev L y = some (.int kd j) → Nat.blt d n = true → WX q g P ops Q n rest ((d, v) :: L) H → WX q g P ops Q n (⟨some d, .binOp bo t x y t', ty, pos, af, none⟩ :: rest) L H
instance {i j : Int} : CmpV .lss i j (.bool (decide (i < j))) := ⟨WX.lss⟩
instance {i j : Int} : CmpV .leq i j (.bool (decide (i ≤ j))) := ⟨WX.leq⟩
instance {i j : Int} : CmpV .gtr i j (.bool (decide (j < i))) := ⟨WX.gtr⟩
instance {i j : Int} : CmpV .geq i j (.bool (decide (j ≤ i))) := ⟨WX.geq⟩
instance {i j : Int} : CmpV .eql i j (.bool (decide (i = j))) := ⟨WX.eql⟩
instance {i j : Int} : CmpV .neq i j (.bool (decide (¬ i = j))) := ⟨WX.neq⟩
theorem cm {bo : BinOp} {i j : Int} {kd : IntKind} (hx : ev L x = some (.int kd i)) (hy : ev L y = some (.int kd j)) [cv : CmpV bo i j v] (k : WX q g P ops Q n rest ((d, v) :: L) H) (hd : Nat.blt d n = true := by exact rfl) : WX q g P ops Q n (⟨some d, .binOp bo t x y t', ty, pos, af, none⟩ :: rest) L H := cv.h hx hy hd k
theorem ad {i j : Int} (k : WX q g P ops Q n rest ((d, .int .i64 (i + j)) :: L) H) (hx : ev L x = some (.int .i64 i) := by exact rfl) (hy : ev L y = some (.int .i64 j) := by exact rfl) (hd : Nat.blt d n = true := by exact rfl)
    (r : -9223372036854775808 ≤ i + j ∧ i + j ≤ 9223372036854775807 := by omega) : WX q g P ops Q n (⟨some d, .binOp .add t x y t', ty, pos, af, none⟩ :: rest) L H := WX.add hx hy hd r k
theorem su {i j : Int} (k : WX q g P ops Q n rest ((d, .int .i64 (i - j)) :: L) H) (hx : ev L x = some (.int .i64 i) := by exact rfl) (hy : ev L y = some (.int .i64 j) := by exact rfl) (hd : Nat.blt d n = true := by exact rfl)
    (r : -9223372036854775808 ≤ i - j ∧ i - j ≤ 9223372036854775807 := by omega) : WX q g P ops Q n (⟨some d, .binOp .sub t x y t', ty, pos, af, none⟩ :: rest) L H := WX.sub' hx hy hd r k
theorem mu {i j : Int} (k : WX q g P ops Q n rest ((d, .int .i64 (i * j)) :: L) H) (hx : ev L x = some (.int .i64 i) := by exact rfl) (hy : ev L y = some (.int .i64 j) := by exact rfl) (hd : Nat.blt d n = true := by exact rfl)
    (r : -9223372036854775808 ≤ i * j ∧ i * j ≤ 9223372036854775807 := by omega) : WX q g P ops Q n (⟨some d, .binOp .mul t x y t', ty, pos, af, none⟩ :: rest) L H := WX.mul hx hy hd r k
theorem re {i j : Int} {kd : IntKind} (k : WX q g P ops Q n rest ((d, .int kd (i.tmod j)) :: L) H) (hx : ev L x = some (.int kd i) := by exact rfl) (hy : ev L y = some (.int kd j) := by exact rfl) (hd : Nat.blt d n = true := by exact rfl)
    (r : j ≠ 0 := by omega) : WX q g P ops Q n (⟨some d, .binOp .rem t x y t', ty, pos, af, none⟩ :: rest) L H := WX.rem hx hy hd r k
/-- A pointer held against nil. -/
class NilV (bo : BinOp) (p : Option Addr) (v : outParam Value) : Prop where
  h : ∀ {g : World} {P : Program} {ops : Array Oper} {Q : Exit → Act → World → Prop} {n : Nat} {rest : List Oper} {L : Fm} {H : HH} {q : Bool} {d : Nat} {ty : TypeId} {pos : String} {af : Array Edge} {x y : Operand} {t t' e : Nat} [ht : TU P t (.pointer e)],
    ev L x = some (.pointer p) → ev L y = some (.pointer none) → Nat.blt d n = true → WX q g P ops Q n rest ((d, v) :: L) H → WX q g P ops Q n (⟨some d, .binOp bo t x y t', ty, pos, af, none⟩ :: rest) L H
instance {p : Addr} : NilV .eql (some p) (.bool false) := ⟨fun h1 h2 h3 k => WX.eqPN h1 h2 h3 k⟩
instance {p : Addr} : NilV .neq (some p) (.bool true) := ⟨fun h1 h2 h3 k => WX.nePN h1 h2 h3 k⟩
instance : NilV .eql none (.bool true) := ⟨fun h1 h2 h3 k => WX.eqNN h1 h2 h3 k⟩
instance : NilV .neq none (.bool false) := ⟨fun h1 h2 h3 k => WX.neNN h1 h2 h3 k⟩
theorem np {bo : BinOp} {p : Option Addr} {e : Nat} [ht : TU P t (.pointer e)] (hx : ev L x = some (.pointer p)) (hy : ev L y = some (.pointer none)) [cv : NilV bo p v] (k : WX q g P ops Q n rest ((d, v) :: L) H) (hd : Nat.blt d n = true := by exact rfl) : WX q g P ops Q n (⟨some d, .binOp bo t x y t', ty, pos, af, none⟩ :: rest) L H := cv.h hx hy hd k
theorem eS {a b : ByteArray} [ht : TU P t .string] (k : WX q g P ops Q n rest ((d, .bool (decide (a = b))) :: L) H) (hx : ev L x = some (.string a) := by exact rfl) (hy : ev L y = some (.string b) := by exact rfl) (hd : Nat.blt d n = true := by exact rfl) :
    WX q g P ops Q n (⟨some d, .binOp .eql t x y t', ty, pos, af, none⟩ :: rest) L H := WX.eqlS hx hy hd k
theorem nS {a b : ByteArray} [ht : TU P t .string] (k : WX q g P ops Q n rest ((d, .bool (decide (¬ a = b))) :: L) H) (hx : ev L x = some (.string a) := by exact rfl) (hy : ev L y = some (.string b) := by exact rfl) (hd : Nat.blt d n = true := by exact rfl) :
    WX q g P ops Q n (⟨some d, .binOp .neq t x y t', ty, pos, af, none⟩ :: rest) L H := WX.neqS hx hy hd k
theorem nD {p : Prop} [Decidable p] (k : WX q g P ops Q n rest ((d, .bool (decide (¬ p))) :: L) H) (hx : ev L x = some (.bool (decide p)) := by exact rfl) (hd : Nat.blt d n = true := by exact rfl) : WX q g P ops Q n (⟨some d, .unOp .not t x, ty, pos, af, none⟩ :: rest) L H := WX.notD hx hd k
theorem nt {b : Bool} (k : WX q g P ops Q n rest ((d, .bool (!b)) :: L) H) (hx : ev L x = some (.bool b) := by exact rfl) (hd : Nat.blt d n = true := by exact rfl) : WX q g P ops Q n (⟨some d, .unOp .not t x, ty, pos, af, none⟩ :: rest) L H := WX.not hx hd k
theorem l1 {e : Nat} {p : Option Addr} {l c : Nat} [ht : TU P t (.slice e)] (k : WX q g P ops Q n rest ((d, .int .i64 l) :: L) H) (hx : ev L x = some (.slice p l c) := by exact rfl) (hd : Nat.blt d n = true := by exact rfl) :
    WX q g P ops Q n (⟨some d, .call ⟨.builtin .len, #[x], #[t]⟩, ty, pos, af, none⟩ :: rest) L H := WX.len hx hd k
theorem lS {s : ByteArray} [ht : TU P t .string] (k : WX q g P ops Q n rest ((d, .int .i64 s.size) :: L) H) (hx : ev L x = some (.string s) := by exact rfl) (hd : Nat.blt d n = true := by exact rfl) :
    WX q g P ops Q n (⟨some d, .call ⟨.builtin .len, #[x], #[t]⟩, ty, pos, af, none⟩ :: rest) L H := WX.lenS hx hd k
theorem mi {i j : Int} {kd : IntKind} {ts : Array TypeId} (k : WX q g P ops Q n rest ((d, .int kd (if j < i then j else i)) :: L) H) (hx : ev L x = some (.int kd i) := by exact rfl) (hy : ev L y = some (.int kd j) := by exact rfl) (hd : Nat.blt d n = true := by exact rfl) :
    WX q g P ops Q n (⟨some d, .call ⟨.builtin .min, #[x, y], ts⟩, ty, pos, af, none⟩ :: rest) L H := WX.min hx hy hd k
theorem ma {i j : Int} {kd : IntKind} {ts : Array TypeId} (k : WX q g P ops Q n rest ((d, .int kd (if j > i then j else i)) :: L) H) (hx : ev L x = some (.int kd i) := by exact rfl) (hy : ev L y = some (.int kd j) := by exact rfl) (hd : Nat.blt d n = true := by exact rfl) :
    WX q g P ops Q n (⟨some d, .call ⟨.builtin .max, #[x, y], ts⟩, ty, pos, af, none⟩ :: rest) L H := WX.max hx hy hd k
theorem ex {i : Nat} {vs : List Value} (k : WX q g P ops Q n rest ((d, v) :: L) H) (hx : ev L x = some (.tuple vs.toArray) := by exact rfl) (hi : vs[i]? = some v := by exact rfl) (hd : Nat.blt d n = true := by exact rfl) :
    WX q g P ops Q n (⟨some d, .extract x i, ty, pos, af, none⟩ :: rest) L H := WX.extract hx hi hd k
end vals

-- memory
section mem
variable {x y z : Operand} {t t' b i T m : Nat} {ag : Bool} {cs cs' vs : List Value} {fr : Nat × Nat} {K : Obj → HH}
theorem ld [ht : TL P t 1 false] (hx : ev L x = some (.pointer (some ⟨b, i, none⟩))) [hf : Foc b (.cells (List.toArray cs) T fr) H K] (k : WX q g P ops Q n rest ((d, v) :: L) H) (hc : cs[i]? = some v := by exact rfl) (hd : Nat.blt d n = true := by exact rfl) :
    WX q g P ops Q n (⟨some d, .load t x, ty, pos, af, none⟩ :: rest) L H := WX.load hx hc hd k
theorem lA [ht : TL P t m true] (hx : ev L x = some (.pointer (some ⟨b, i, none⟩))) [hf : Foc b (.cells (List.toArray cs) T fr) H K] (k : WX q g P ops Q n rest ((d, .agg vs.toArray) :: L) H)
    (hc : (cs.drop i).take m = vs := by first | exact whole rfl | (simp only [Enc.enc, Nat.zero_add, Nat.reduceAdd, List.drop_zero, List.drop_succ_cons, List.take_succ_cons, List.take_zero]; rfl)) (hl : vs.length = m := by exact rfl) (hd : Nat.blt d n = true := by exact rfl) :
    WX q g P ops Q n (⟨some d, .load t x, ty, pos, af, none⟩ :: rest) L H := WX.loadA hx hc hl hd k
theorem st [ht : TL P t 1 false] (hx : ev L x = some (.pointer (some ⟨b, i, none⟩))) (hy : ev L y = some v) [hf : Foc b (.cells (List.toArray cs) T (0, 0)) H K] (k : WX false g P ops Q n rest L (K (.cells (List.toArray cs') T (0, 0))))
    (e : cs.set i v = cs' := by first | (simp only [List.set_cons_zero, List.set_cons_succ, Nat.zero_add, Nat.reduceAdd]; rfl) | exact rfl) (h1 : v.oneCell' = true := by exact rfl) (hb : Nat.blt i cs.length = true := by exact rfl) :
    WX false g P ops Q n (⟨none, .store t x y, ty, pos, af, none⟩ :: rest) L H := by subst e; exact WX.store hx hy h1 hb k
theorem sG [ht : TL P t m ag] (hx : ev L x = some (.pointer (some ⟨b, i, none⟩))) (hy : ev L y = some v) [hf : Foc b (.cells (List.toArray cs) T (0, 0)) H K] (k : WX false g P ops Q n rest L (K (.cells (List.toArray cs') T (0, 0))))
    (hv : v.cells = vs.toArray := by exact rfl) (e : setAt cs i vs = cs' := by first | exact setAt_whole rfl | (simp only [setAt, List.set_cons_zero, List.set_cons_succ, Nat.zero_add, Nat.reduceAdd]; rfl) | exact rfl) (hl : vs.length = m := by exact rfl) (h1 : oneCells vs = true := by exact rfl)
    (hb : Nat.ble (i + vs.length) cs.length = true := by exact rfl) : WX false g P ops Q n (⟨none, .store t x y, ty, pos, af, none⟩ :: rest) L H := by subst e; exact WX.storeG hx hy hv hl h1 hb k
theorem bx (hx : ev L x = some v) (k : ∀ b, WX false g P ops Q n rest ((d, .pointer (some ⟨b, 0, none⟩)) :: L) ([(b, .cells (List.toArray vs) t (0, 0))] :: H)) (hv : v.cells = vs.toArray := by exact rfl) (hd : Nat.blt d n = true := by exact rfl) :
    WX false g P ops Q n (⟨some d, .box t x, ty, pos, af, none⟩ :: rest) L H := WX.box hx hv hd k
theorem al [hz : TZ P t vs] (k : ∀ b, WX false g P ops Q n rest ((d, .pointer (some ⟨b, 0, none⟩)) :: L) ([(b, .cells (List.toArray vs) t (0, 0))] :: H)) (hd : Nat.blt d n = true := by exact rfl) : WX false g P ops Q n (⟨some d, .alloc t, ty, pos, af, none⟩ :: rest) L H := WX.alloc hd k
theorem bd {parts : List (Nat × Operand)} {zs cs0 : List Value} {pl : List (Nat × Nat)} [hz : TZ P t zs] [hp : TP P t pl] (k : WX q g P ops Q n rest ((d, .agg cs.toArray) :: L) H) (hx : evs L (parts.map (·.2)) = some vs := by exact rfl)
    (hf' : fillL pl zs ((parts.map (·.1)).zip vs) = some cs0 := by exact rfl) (e : cs0 = cs := by first | (simp only [setAt, Value.cells, List.set_cons_zero, List.set_cons_succ]; rfl) | exact rfl) (hd : Nat.blt d n = true := by exact rfl) :
    WX q g P ops Q n (⟨some d, .build t parts.toArray, ty, pos, af, none⟩ :: rest) L H := by subst e; exact WX.build hx hf' hd k
/-- An element of an array behind a pointer. -/
theorem iP {len e off : Nat} {j : Int} {kd : IntKind} [ht : TU P t (.array len e)] [hl : TL P e m ag] (k : WX q g P ops Q n rest ((d, .pointer (some ⟨b, off + j.toNat * m, none⟩)) :: L) H) (hx : ev L x = some (.pointer (some ⟨b, off, none⟩)) := by exact rfl)
    (hi : ev L y = some (.int kd j) := by exact rfl) (h0 : 0 ≤ j ∧ j < len := by omega) (hd : Nat.blt d n = true := by exact rfl) : WX q g P ops Q n (⟨some d, .indexAddr t x y, ty, pos, af, none⟩ :: rest) L H := WX.idxP hx hi h0 hd k
end mem

-- slices
section sls
variable {α : Type} [E : Enc α] {xs : List α} {y : α} {h : Hp} {K : Hp → HH} {x i : Operand} {t f m off off' k e : Nat} {ag : Bool} {kd : IntKind} {u : Value}
theorem ln [ht : TU P t (.slice e)] (hx : ev L x = some v) (hs : Rs xs v h) (kk : WX q g P ops Q n rest ((d, .int .i64 xs.length) :: L) H) (hd : Nat.blt d n = true := by exact rfl) : WX q g P ops Q n (⟨some d, .call ⟨.builtin .len, #[x], #[t]⟩, ty, pos, af, none⟩ :: rest) L H := WX.lenSl hx hs hd kk
theorem ix [ht : TU P t (.slice e)] [hl : TL P e m ag] (hx : ev L x = some v) (hi : ev L i = some (.int kd (k : Int))) (kk : WX q g P ops Q n rest ((d, eptr v k m 0) :: L) H) (hs : Rs xs v h := by assumption) (hk : xs[k]? = some y := by assumption) (hd : Nat.blt d n = true := by exact rfl) :
    WX q g P ops Q n (⟨some d, .indexAddr t x i, ty, pos, af, none⟩ :: rest) L H := WX.idx hx hi hs hk hd kk
theorem iI {j : Int} [ht : TU P t (.slice e)] [hl : TL P e m ag] (hx : ev L x = some v) (hi : ev L i = some (.int kd j)) (kk : WX q g P ops Q n rest ((d, eptr v j.toNat m 0) :: L) H) (hs : Rs xs v h := by assumption) (h0 : 0 ≤ j := by omega) (hk : xs[j.toNat]? = some y := by assumption) (hd : Nat.blt d n = true := by exact rfl) :
    WX q g P ops Q n (⟨some d, .indexAddr t x i, ty, pos, af, none⟩ :: rest) L H := WX.idxI hx hi hs h0 hk hd kk
theorem nE (hx : ev L x = some (eptr v k m off)) (kk : WX q g P ops Q n rest ((d, eptr v k m off) :: L) H) (hs : Rs xs v h := by assumption) (hk : xs[k]? = some y := by assumption) (hd : Nat.blt d n = true := by exact rfl) : WX q g P ops Q n (⟨some d, .nilCheck x, ty, pos, af, none⟩ :: rest) L H := WX.nilE hx hs hk hd kk
theorem fE (hx : ev L x = some (eptr v k m off)) [hf : TF P t f off'] (kk : WX q g P ops Q n rest ((d, eptr v k m (off + off')) :: L) H) (hs : Rs xs v h := by assumption) (hk : xs[k]? = some y := by assumption) (hd : Nat.blt d n = true := by exact rfl) :
    WX q g P ops Q n (⟨some d, .fieldAddr t x f, ty, pos, af, none⟩ :: rest) L H := WX.fieldE hx hs hk hd kk
theorem lE [ht : TL P t 1 false] (hx : ev L x = some (eptr v k m off)) (hs : Rs xs v h) [hw : Swp h H K] (kk : WX q g P ops Q n rest ((d, u) :: L) H) (hk : xs[k]? = some y := by assumption) (hms : m = Enc.sz α := by exact rfl) (ho : (Enc.enc y)[off]? = some u := by exact rfl) (hd : Nat.blt d n = true := by exact rfl) :
    WX q g P ops Q n (⟨some d, .load t x, ty, pos, af, none⟩ :: rest) L H := WX.loadE hx hs hk hms ho hd kk
theorem lF {mm : Nat} {us : List Value} [ht : TL P t mm true] (hx : ev L x = some (eptr v k m off)) (hs : Rs xs v h) [hw : Swp h H K] (kk : WX q g P ops Q n rest ((d, .agg us.toArray) :: L) H) (hk : xs[k]? = some y := by assumption) (hms : m = Enc.sz α := by exact rfl)
    (ho : ((Enc.enc y).drop off).take mm = us := by first | exact whole rfl | (simp only [Enc.enc, Nat.zero_add, Nat.reduceAdd, List.drop_zero, List.drop_succ_cons, List.take_succ_cons, List.take_zero]; rfl)) (hl : us.length = mm := by exact rfl) (hd : Nat.blt d n = true := by exact rfl) :
    WX q g P ops Q n (⟨some d, .load t x, ty, pos, af, none⟩ :: rest) L H := WX.loadEA hx hs hk hms ho hl hd kk
theorem sl [ht : TU P t (.slice e)] [hl : TL P e m ag] (hx : ev L x = some v) (hi : ev L i = some (.int kd (k : Int))) (hs : Rs xs v h) (kk : WX q g P ops Q n rest ((d, slTo v k) :: L) H) (hk : k ≤ xs.length := by omega) (hd : Nat.blt d n = true := by exact rfl) :
    WX q g P ops Q n (⟨some d, .slice t x none (some i) none, ty, pos, af, none⟩ :: rest) L H := WX.slTo hx hi hs hk hd kk
theorem cv {xs : List UInt8} {t' : Nat} [h1 : TU P t (.slice e)] [h2 : TU P e (.int .u8)] [h3 : TU P t' .string] (hx : ev L x = some v) (hs : Rs xs v h) [hw : Swp h H K] (kk : WX q g P ops Q n rest ((d, .string (strOf xs)) :: L) H) (hd : Nat.blt d n = true := by exact rfl) :
    WX q g P ops Q n (⟨some d, .convert t t' x, ty, pos, af, none⟩ :: rest) L H := WX.strOf hx hs hd kk
end sls
end

-- a cut: what stands behind a piece, however it got there
section cuts
variable {g : World} {P : Program} {ops : Array Oper} {Q Q' : Exit → Act → World → Prop} {n : Nat} {os : List Oper} {L : Fm} {H : HH}
theorem upon_mono {o : Oper} {a : Act} {K K' : Act → World → Prop} (h : ∀ a w, K a w → K' a w) (hq : ∀ e a w, Q e a w → Q' e a w) {r : Result Next} (hh : o.upon P a K Q r) : o.upon P a K' Q' r := by
  have hl : LetsOut Q → LetsOut Q' := fun ⟨a, w, h⟩ => ⟨a, w, hq _ _ _ h⟩
  cases r with
  | ok n w' =>
    cases n <;> simp only [Oper.upon] at hh ⊢ <;>
      first
        | exact h _ _ hh
        | exact Calls.mono hh (fun e w'' he => by cases e <;> first | exact h _ _ he | exact hq _ _ _ he | exact hl he)
        | exact Rows.mono hh (fun _ _ he => h _ _ he)
  | halt x w' => cases x <;> simp only [Oper.upon] at hh ⊢ <;> first | exact hq _ _ _ hh | exact hh
theorem wpList_mono (hq : ∀ e a w, Q e a w → Q' e a w) : ∀ (os : List Oper) (a : Act) (w : World), wpList P ops Q os a w → wpList P ops Q' os a w
  | [], a, w, h => hq _ _ _ h
  | o :: rest, a, w, h => by
    simp only [wpList] at h ⊢
    split
    · rename_i hw
      rw [if_pos hw] at h
      rcases h with h | ⟨h1, a', w', h2⟩
      · exact .inl (upon_mono (fun a w => wpList_mono hq rest a w) hq h)
      · exact .inr ⟨h1, a', w', hq _ _ _ h2⟩
    · rename_i hw
      rw [if_neg hw] at h
      exact wpList_mono hq rest _ _ h
def At (g : World) (n : Nat) (L : Fm) (H : HH) : Act → World → Prop := fun a w => Fr n L a ∧ on g H.flatten w
theorem then_mono {N N' : Act → World → Prop} (h : ∀ a w, N a w → N' a w) : ∀ e a w, Exit.then N Q e a w → Exit.then N' Q e a w := by
  intro e a w hh
  cases e <;> first | exact h _ _ hh | exact hh
theorem WX.cut {y : Code} (L' : Fm) (H' : HH) (h1 : WX false g P ops (Exit.then (At g n L' H') Q) n os L H) (h2 : W g P y Q n L' H') : WX false g P ops (Exit.then (y.wp P Q) Q) n os L H :=
  .mk fun a w ha hw => wpList_mono (then_mono fun a w ⟨h3, h4⟩ => h2.run a w h3 h4) _ _ _ (h1.run a w ha hw)
theorem W.cut {x y : Code} (L' : Fm) (H' : HH) (h1 : W g P x (Exit.then (At g n L' H') Q) n L H) (h2 : W g P y Q n L' H') : W g P (.seq x y) Q n L H :=
  .mk fun a w ha hw => wp_seq (wp_mono (h1.run a w ha hw) (then_mono fun a w ⟨h3, h4⟩ => h2.run a w h3 h4))
theorem D.at {L' : Fm} {H' : HH} (f : Fsub L L') (s : Hsub H H') : D g (Exit.then (At g n L' H') Q) .normal n L H := .mk fun _ _ ha hw => ⟨ha.sub f, s.on hw⟩
end cuts
end Go.Sl
