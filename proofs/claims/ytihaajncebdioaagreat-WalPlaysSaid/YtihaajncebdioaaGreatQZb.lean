/-
  Texts of one road, one behind the other.
-/
import Derived.Test.YtihaajncebdioaaGreatQZa
import Derived.Laws.IdiomStrings
import Derived.Laws.BitsAllLaws
import Derived.Shelf.Small.Bits
import Derived.Shelf.Strconv.Itoa0
import Derived.Shelf.Sort.Plain
import Derived.Ground.Names2Prog
import Derived.Shelf.Slices.SearchI
import Derived.Shelf.Slices.In.SortNone
import Derived.Shelf.Bytes.SlEqualAll
import Derived.Shelf.Bytes.Small
import Derived.Test.YtihaajncebdioaaGreatProg
import Derived.ScopeJumps
/-
  Bytes and strings, slices that are cut on both sides, append in place, clear, fields of values.
-/
set_option linter.unusedVariables false
set_option linter.unusedSimpArgs false
namespace Go.Sl
open Go

section
variable {g : World} {P : Program} {ops : Array Oper} {Q : Exit → Act → World → Prop} {n : Nat} {rest : List Oper} {L : Fm} {H : HH} {q : Bool}
variable {d : Nat} {ty : TypeId} {pos : String} {af : Array Edge} {v v2 : Value}

/-- The bytes as a string. -/
def strOf (xs : List UInt8) : ByteArray := ⟨xs.toArray⟩
theorem strOf_data (s : ByteArray) : strOf s.data.toList = s := by cases s; rfl
theorem data_strOf (xs : List UInt8) : (strOf xs).data.toList = xs := rfl
theorem strOf_inj {xs ys : List UInt8} : strOf xs = strOf ys ↔ xs = ys := by
  constructor
  · intro h
    have := congrArg (fun s : ByteArray => s.data.toList) h
    simpa [strOf] using this
  · rintro rfl; rfl
theorem strOf_size (xs : List UInt8) : (strOf xs).size = xs.length := by simp [strOf, ByteArray.size]

theorem WX.strOf {x : Operand} {t t' e : Nat} {xs : List UInt8} {h : Hp} {K : Hp → HH} (hx : ev L x = some v) (hs : Rs xs v h) [hw : Swp h H K] [h1 : TU P t (.slice e)] [h2 : TU P e (.int .u8)] [h3 : TU P t' .string] (hd : Nat.blt d n = true)
    (kk : WX q g P ops Q n rest ((d, .string (Sl.strOf xs)) :: L) H) : WX q g P ops Q n (⟨some d, .convert t t' x, ty, pos, af, none⟩ :: rest) L H :=
  WX.val (fun a ha w ho => by
    obtain ⟨p, c, rfl, le, f⟩ := hs
    have key : (convert t t' (.slice p xs.length c)).run P w = .ok (.string ⟨xs.toArray⟩) w := by
      cases p with
      | none =>
        have hx : xs = [] := by
          cases xs with
          | nil => rfl
          | cons y r => obtain ⟨b, off, e, _⟩ := f 0 y rfl; cases e
        subst hx
        rw [run_convert_bytes_string w t t' e none _ c h1.h h2.h h3.h]
        simp [Conv.bytesToString]
        rfl
      | some a =>
        refine run_convert_bytes_back w t t' e a c xs h1.h h2.h h3.h (fun j hj => ?_)
        obtain ⟨b, off, e1, e2⟩ := f j _ (List.getElem?_eq_getElem hj)
        cases e1
        rw [add_none]
        have := e2 0 _ rfl g w (hw.onx ho)
        simpa [Enc.sz] using this
    simp only [execOp, ha.ev hx, Sem.run_bind, key, Result.andThen_ok, Sem.run_pure]
    rfl) hd kk

theorem WX.bytesOf {x : Operand} {t t' e : Nat} {s : ByteArray} (hx : ev L x = some (.string s)) [h1 : TU P t .string] [h2 : TU P t' (.slice e)] [h3 : TU P e (.int .u8)] (hd : Nat.blt d n = true)
    (kk : ∀ v' h', IsSl e s.data.toList v' h' → WX false g P ops Q n rest ((d, v') :: L) (h' :: H)) : WX false g P ops Q n (⟨some d, .convert t t' x, ty, pos, af, none⟩ :: rest) L H := by
  refine WX.eff hd fun a w ha ho => ?_
  have hr := run_bytes_of_string (P := P) w t t' e s h1.h h2.h h3.h
  obtain ⟨r, hcap⟩ : ∃ r, grownCap w s.size 0 e = s.size + r := ⟨_, rfl⟩
  have hrow : bytesRow s (grownCap w s.size 0 e) = List.toArray (encs s.data.toList ++ List.replicate r (Value.int .u8 0)) := by
    rw [hcap]
    apply Array.toList_inj.1
    simp only [bytesRow, Nat.add_sub_cancel_left]
    have he : ∀ l : List UInt8, encs l = l.map (fun b => Value.int .u8 (b.toNat : Int)) := by
      intro l
      induction l with
      | nil => rfl
      | cons x r ih =>
        have : encs (x :: r) = Enc.enc x ++ encs r := rfl
        rw [this, ih]; rfl
    rw [he]
    simp
  refine ⟨.slice (some ⟨w.heap.size, 0, none⟩) s.size (grownCap w s.size 0 e), World.alloc w.drew (.cells (bytesRow s (grownCap w s.size 0 e)) e ((bytesRow s (grownCap w s.size 0 e)).size, (bytesRow s (grownCap w s.size 0 e)).size + 1)), [(w.heap.size, .cells (bytesRow s (grownCap w s.size 0 e)) e ((bytesRow s (grownCap w s.size 0 e)).size, (bytesRow s (grownCap w s.size 0 e)).size + 1))] :: H, ?_, ?_, kk _ _ ?_⟩
  · simp only [execOp, ha.ev hx, Sem.run_bind, hr, Result.andThen_ok, Sem.run_pure]
  · have h1 : on g H.flatten w.drew := ho.heap rfl ⟨rfl, rfl, rfl, Nat.le_refl _⟩
    exact h1.alloc _
  · have hsz : s.data.toList.length = s.size := Array.length_toList
    have hrl : (bytesRow s (grownCap w s.size 0 e)).size = s.size + r := by
      rw [hrow, List.size_toArray, List.length_append, encs_len, List.length_replicate, hsz]
      show s.size * 1 + r = _
      rw [Nat.mul_one]
    refine .inr ⟨w.heap.size, s.size + r, List.replicate r (Value.int .u8 0), ((bytesRow s (grownCap w s.size 0 e)).size, (bytesRow s (grownCap w s.size 0 e)).size + 1), ?_, ?_, ?_, ?_, ?_⟩
    · rw [hcap, hsz]
    · rw [hrow]
    · rw [hsz]; omega
    · rw [hsz, List.length_replicate, Nat.add_sub_cancel_left]
      show r = r * 1
      rw [Nat.mul_one]
    · right
      rw [hrl]
      show (s.size + r) * 1 ≤ s.size + r
      rw [Nat.mul_one]
      exact Nat.le_refl _

section strs
variable {x y : Operand} {t t' : Nat} {a b : ByteArray}
theorem run_eqGuard_str {op : BinOp} {w : World} : (eqGuard op t x y (.string a) (.string b)).run P w = .ok () w := by
  unfold eqGuard; cases op <;> rfl
theorem WX.eqlS (hx : ev L x = some (.string a)) (hy : ev L y = some (.string b)) (hd : Nat.blt d n = true) [ht : TU P t .string]
    (k : WX q g P ops Q n rest ((d, .bool (decide (a = b))) :: L) H) : WX q g P ops Q n (⟨some d, .binOp .eql t x y t', ty, pos, af, none⟩ :: rest) L H :=
  WX.val (fun ac ha w _ => run_bin (ha.ev hx) (ha.ev hy) run_eqGuard_str (by
    rw [binOp_string_eql, Sem.run_pure, ← beq_toListBytes, beq_bytes])) hd k
theorem WX.neqS (hx : ev L x = some (.string a)) (hy : ev L y = some (.string b)) (hd : Nat.blt d n = true) [ht : TU P t .string]
    (k : WX q g P ops Q n rest ((d, .bool (decide (¬ a = b))) :: L) H) : WX q g P ops Q n (⟨some d, .binOp .neq t x y t', ty, pos, af, none⟩ :: rest) L H :=
  WX.val (fun ac ha w _ => run_bin (ha.ev hx) (ha.ev hy) run_eqGuard_str (by
    rw [binOp_string_neq, Sem.run_pure, ← beq_toListBytes, beq_bytes]
    simp)) hd k
end strs

-- slices against nil
section nilsl
variable {x y : Operand} {t t' e : Nat} {p : Option Addr} {l c : Nat}
theorem run_eqGuard_sl {op : BinOp} {w : World} {u : Value} : (eqGuard op t x y (.slice p l c) (.slice none 0 0)).run P w = .ok () w := by
  unfold eqGuard; cases op <;> rfl
theorem run_equalIn_sl {w : World} (k : Nat) [ht : TU P t (.slice e)] : (Op.equalIn (k + 1) t (.slice p l c) (.slice none 0 0)).run P w = .ok p.isNone w := by
  cases p <;> simp [Op.equalIn, ht.run]
theorem WX.eqlN (hx : ev L x = some (.slice p l c)) (hy : ev L y = some (.slice none 0 0)) (hd : Nat.blt d n = true) [ht : TU P t (.slice e)]
    (k : WX q g P ops Q n rest ((d, .bool p.isNone) :: L) H) : WX q g P ops Q n (⟨some d, .binOp .eql t x y t', ty, pos, af, none⟩ :: rest) L H :=
  WX.val (fun ac ha w _ => run_bin (ha.ev hx) (ha.ev hy) (run_eqGuard_sl (u := undef)) (by
    show ((do pure (.bool (← Op.equalIn 10000 t (.slice p l c) (.slice none 0 0))) : Sem Value)).run P w = _
    rw [Sem.run_bind, run_equalIn_sl (t := t) (e := e) 9999]; rfl)) hd k
theorem WX.neqN (hx : ev L x = some (.slice p l c)) (hy : ev L y = some (.slice none 0 0)) (hd : Nat.blt d n = true) [ht : TU P t (.slice e)]
    (k : WX q g P ops Q n rest ((d, .bool (!p.isNone)) :: L) H) : WX q g P ops Q n (⟨some d, .binOp .neq t x y t', ty, pos, af, none⟩ :: rest) L H :=
  WX.val (fun ac ha w _ => run_bin (ha.ev hx) (ha.ev hy) (run_eqGuard_sl (u := undef)) (by
    show ((do pure (.bool (!(← Op.equalIn 10000 t (.slice p l c) (.slice none 0 0)))) : Sem Value)).run P w = _
    rw [Sem.run_bind, run_equalIn_sl (t := t) (e := e) 9999]; rfl)) hd k
end nilsl

-- slices that are cut
/-- v[lo:hi:mx], of elements of m cells. -/
def slCut (v : Value) (m lo hi mx : Nat) : Value := match v with
  | .slice a _ _ => .slice (if mx = lo then a else a.map (·.add (lo * m))) (hi - lo) (mx - lo)
  | _ => v
def slCap : Value → Nat
  | .slice _ _ c => c
  | _ => 0
def slBase : Value → Option Addr
  | .slice a _ _ => a
  | _ => none
theorem slCut_eq (a : Option Addr) (l c m lo hi mx : Nat) : slCut (.slice a l c) m lo hi mx = .slice (if mx = lo then a else a.map (·.add (lo * m))) (hi - lo) (mx - lo) := rfl

section cut
variable {x i j k3 : Operand} {t e m lo hi mx : Nat} {ag : Bool} {kd kd' kd3 : IntKind} {p : Option Addr} {l c : Nat}
theorem bound_ok {w : World} {kd : IntKind} {k y : Nat} {code : BoundsCode} (h : k ≤ y) : (Instr.sliceBound (.int kd (k : Int)) y code).run P w = .ok k w := by
  have : (0 : Int) ≤ (k : Int) ∧ (k : Int) ≤ (y : Int) := ⟨by omega, by omega⟩
  simp [Instr.sliceBound, asIntOf, h]
theorem WX.cut2 (hx : ev L x = some (.slice p l c)) (hi' : ev L i = some (.int kd (lo : Int))) (hj' : ev L j = some (.int kd' (hi : Int))) (h1 : lo ≤ hi) (h2 : hi ≤ c) [ht : TU P t (.slice e)] [hl : TL P e m ag]
    (hd : Nat.blt d n = true) (kk : WX q g P ops Q n rest ((d, slCut (.slice p l c) m lo hi c) :: L) H) : WX q g P ops Q n (⟨some d, .slice t x (some i) (some j) none, ty, pos, af, none⟩ :: rest) L H :=
  WX.val (fun a' ha w hw => by
    simp [execOp, ha.ev hx, ha.ev hi', ha.ev hj', Instr.sliceAt, Instr.slice, Instr.sliceBounds, bound_ok h1, bound_ok h2, ht.run, hl.sizeOf, slCut]) hd kk
theorem WX.cut3 (hx : ev L x = some (.slice p l c)) (hi' : ev L i = some (.int kd (lo : Int))) (hj' : ev L j = some (.int kd' (hi : Int))) (hk' : ev L k3 = some (.int kd3 (mx : Int))) (h1 : lo ≤ hi) (h2 : hi ≤ mx) (h3 : mx ≤ c) [ht : TU P t (.slice e)] [hl : TL P e m ag]
    (hd : Nat.blt d n = true) (kk : WX q g P ops Q n rest ((d, slCut (.slice p l c) m lo hi mx) :: L) H) : WX q g P ops Q n (⟨some d, .slice t x (some i) (some j) (some k3), ty, pos, af, none⟩ :: rest) L H :=
  WX.val (fun a' ha w hw => by
    simp [execOp, ha.ev hx, ha.ev hi', ha.ev hj', ha.ev hk', Instr.sliceAt, Instr.slice, Instr.sliceBounds, bound_ok h1, bound_ok h2, bound_ok h3, ht.run, hl.sizeOf, slCut]) hd kk
theorem WX.cutFrom (hx : ev L x = some (.slice p l c)) (hi' : ev L i = some (.int kd (lo : Int))) (h1 : lo ≤ l) (h2 : l ≤ c) [ht : TU P t (.slice e)] [hl : TL P e m ag]
    (hd : Nat.blt d n = true) (kk : WX q g P ops Q n rest ((d, slCut (.slice p l c) m lo l c) :: L) H) : WX q g P ops Q n (⟨some d, .slice t x (some i) none none, ty, pos, af, none⟩ :: rest) L H :=
  WX.val (fun a' ha w hw => by
    simp [execOp, ha.ev hx, ha.ev hi', Instr.sliceAt, Instr.slice, Instr.sliceBounds, bound_ok h1, ht.run, hl.sizeOf, slCut]) hd kk
end cut

section cuts
variable {α : Type} [E : Enc α] {xs ys : List α} {y : α} {T k m : Nat} {h : Hp}
/-- A piece of it reads as the piece. -/
theorem Rs.cut (hs : Rs xs v h) (hm : m = Enc.sz α) {lo hi mx : Nat} (h1 : lo ≤ hi) (h2 : hi ≤ xs.length) (h3 : hi ≤ mx) : Rs ((xs.drop lo).take (hi - lo)) (slCut v m lo hi mx) h := by
  subst hm
  obtain ⟨a, c, rfl, le, f⟩ := hs
  have hl : ((xs.drop lo).take (hi - lo)).length = hi - lo := by rw [List.length_take, List.length_drop]; omega
  refine ⟨_, _, by rw [slCut_eq, hl], by omega, fun k y hk => ?_⟩
  have hlt := (List.getElem?_eq_some_iff.1 hk).1
  rw [hl] at hlt
  rw [List.getElem?_take, if_pos hlt, List.getElem?_drop] at hk
  obtain ⟨b, off, e1, e2⟩ := f (lo + k) y hk
  refine ⟨b, off + lo * Enc.sz α, ?_, fun j u hu g w ho => ?_⟩
  · rw [if_neg (by omega), e1]; simp [add_none]
  · rw [← e2 j u hu g w ho]; congr 2; rw [Nat.add_mul]; omega
theorem Rs.from (hs : Rs xs v h) (hm : m = Enc.sz α) {lo : Nat} (h1 : lo ≤ xs.length) : Rs (xs.drop lo) (slCut v m lo xs.length (slCap v)) h := by
  obtain ⟨a, c, e, le, f⟩ := id hs
  have := hs.cut hm h1 (Nat.le_refl _) (mx := slCap v) (by rw [e]; exact le)
  rwa [List.take_of_length_le (by rw [List.length_drop]; omega)] at this

/-- append, where there is room: the same block, the same room. -/
theorem run_appendIn {t t2 bytes : Nat} {ag : Bool} {v2 : Value} {ty : TypeId} {d2 : TypeDesc} [ht : TU P t (.slice T)] [ht2 : TU P t2 d2] (hd2 : ∀ k, d2 ≠ .int k)
    [hl : TL P T m ag] (hm : m = Enc.sz α) {b cap : Nat} {sp : List Value} {fr : Nat × Nat} (h1 : xs.length ≤ cap) (h2 : sp.length = (cap - xs.length) * Enc.sz α) (h3 : Free fr (cap * Enc.sz α)) {w : World}
    (hh : w.heap[b]? = some (.cells (List.toArray (encs xs ++ sp)) T fr)) (s1 : Src P (Enc.sz α) v2 ys.length (encs ys) w) (hfit : xs.length + ys.length ≤ cap) :
    ∃ w' o, (Builtin.append_ #[t, t2] ty #[.slice (some ⟨b, 0, none⟩) xs.length cap, v2]).run P w = .ok (.slice (some ⟨b, 0, none⟩) (xs.length + ys.length) cap) w' ∧ Amb w w' ∧ w'.heap[b]? = some o ∧ (∀ k, k ≠ b → w'.heap[k]? = w.heap[k]?) ∧
      o = .cells (List.toArray (encs (xs ++ ys) ++ sp.drop (ys.length * Enc.sz α))) T fr := by
  subst hm
  have hlen : (encs xs ++ sp).length = cap * Enc.sz α := by rw [List.length_append, encs_len, h2, ← Nat.add_mul]; congr 1; omega
  have hfit2 : xs.length * Enc.sz α + ys.length * Enc.sz α ≤ cap * Enc.sz α := by rw [← Nat.add_mul]; exact Nat.mul_le_mul_right _ hfit
  obtain ⟨w', e1, e2, e3, e4⟩ := run_storeCellsF (P := P) (encs ys) (xs.length * Enc.sz α) 0 _ w hh (by rw [hlen]; exact h3) (by rw [hlen, encs_len]; simpa using hfit2) (encs_one ys)
  have hints : (match (generalizing := false) d2 with | .int _ => true | _ => false) = false := by cases d2 <;> first | rfl | exact absurd rfl (hd2 _)
  refine ⟨w', _, ?_, e2, e3, e4, ?_⟩
  · simp [Builtin.append_, ht.run, ht2.run, hl.sizeOf, hints, s1.len, s1.cells, hfit, add_none, e1]
  · congr 2
    rw [Nat.add_zero, ← encs_len xs, show (encs xs).length = (encs xs).length + 0 from rfl, setAt_append_right, encs_append, List.append_assoc]
    congr 1
    have hsp : sp = sp.take (ys.length * Enc.sz α) ++ sp.drop (ys.length * Enc.sz α) := (List.take_append_drop _ _).symm
    have hspl : ys.length * Enc.sz α ≤ sp.length := by rw [h2]; exact Nat.mul_le_mul_right _ (by omega)
    conv => lhs; rw [hsp]
    rw [setAt_append_left _ _ _ _ (by rw [encs_len, List.length_take, Nat.min_eq_left hspl]; omega)]
    congr 1
    have := setAt_all (encs ys) (sp.take (ys.length * Enc.sz α)) 0 [] rfl (by rw [List.length_take, Nat.min_eq_left hspl, encs_len])
    simpa using this
theorem WX.appIn {x z : Operand} {t t2 b cap nx : Nat} {ag : Bool} {e2 : Nat} {cs sp : List Value} {fr : Nat × Nat} {K : Obj → HH} (hx : ev L x = some (.slice (some ⟨b, 0, none⟩) nx cap)) (hz : ev L z = some v2)
    [hf : Foc b (.cells (List.toArray cs) T fr) H K] (hs2 : Rs ys v2 [(b, .cells (List.toArray cs) T fr)]) [ht : TU P t (.slice T)] [ht2 : TU P t2 (.slice e2)] [hl : TL P T m ag] (hm : m = Enc.sz α) (hn : nx = xs.length) (hcs : cs = encs xs ++ sp)
    (h1 : xs.length ≤ cap) (h2 : sp.length = (cap - xs.length) * Enc.sz α) (h3 : Free fr (cap * Enc.sz α)) (hfit : xs.length + ys.length ≤ cap) (hd : Nat.blt d n = true)
    (kk : WX false g P ops Q n rest ((d, .slice (some ⟨b, 0, none⟩) (xs.length + ys.length) cap) :: L) (K (.cells (List.toArray (encs (xs ++ ys) ++ sp.drop (ys.length * Enc.sz α))) T fr))) :
    WX false g P ops Q n (⟨some d, .call ⟨.builtin .append, #[x, z], #[t, t2]⟩, ty, pos, af, none⟩ :: rest) L H := by
  subst hn; subst hcs
  refine WX.eff hd fun a w ha ho => ?_
  have hh := hf.heap ho
  have s1 : Src P (Enc.sz α) v2 ys.length (encs ys) w := hs2.src (g := w) ⟨Amb.refl w, by simp, fun b' o hm => by
    rw [List.mem_singleton] at hm; cases hm; exact hh⟩
  obtain ⟨w', o, hr, ham, e1, e2, rfl⟩ := run_appendIn (ty := ty) (t := t) (t2 := t2) (bytes := 0) (by intro k hk; cases hk) hm h1 h2 h3 hh s1 hfit
  exact ⟨_, w', _, run_bi (args := [x, z]) (vs := [.slice (some ⟨b, 0, none⟩) xs.length cap, v2]) (by simp [ha.ev hx, ha.ev hz]) (by simp [builtin, hr]), hf.set ho ham e1 e2, kk⟩

theorem rep_one {zs : List Value} (h1 : oneCells zs = true) : ∀ k, oneCells (List.replicate k zs).flatten = true
  | 0 => rfl
  | k + 1 => by
    simp only [List.replicate_succ, List.flatten_cons, oneCells, List.all_append, Bool.and_eq_true]
    exact ⟨h1, rep_one h1 k⟩
/-- clear, of elements of a block. -/
theorem WX.clearB {x : Operand} {t b off len c : Nat} {zs : List Value} {cs : List Value} {fr : Nat × Nat} {K : Obj → HH} (hx : ev L x = some (.slice (some ⟨b, off, none⟩) len c)) [ht : TU P t (.slice T)] [hz : TZ P T zs]
    [hf : Foc b (.cells (List.toArray cs) T fr) H K] (h3 : Free fr cs.length) (hp : 0 < len) (hb : off + len * zs.length ≤ cs.length) (h1 : oneCells zs = true)
    (kk : WX false g P ops Q n rest L (K (.cells (List.toArray (setAt cs off (List.replicate len zs).flatten)) T fr))) :
    WX false g P ops Q n (⟨none, .call ⟨.builtin .clear, #[x], #[t]⟩, ty, pos, af, none⟩ :: rest) L H :=
  WX.effN (fun a w ha ho => by
    obtain ⟨z, hz1, hz2⟩ := hz.run (w := w)
    have hone := rep_one h1 len
    have hlen : (List.replicate len zs).flatten.length = len * zs.length := by simp
    obtain ⟨w', e1, e2, e3, e4⟩ := run_storeCellsF (P := P) (List.replicate len zs).flatten off 0 cs w (hf.heap ho) h3 (by rw [hlen]; omega) hone
    refine ⟨.tuple #[], w', _, run_bi (args := [x]) (vs := [.slice (some ⟨b, off, none⟩) len c]) (by simp [ha.ev hx]) ?_, hf.set ho e2 (by simpa using e3) e4, kk⟩
    obtain ⟨l', rfl⟩ : ∃ l', len = l' + 1 := ⟨len - 1, by omega⟩
    have hzc : (Builtin.zeroCells z.cells (l' + 1)).toList = (List.replicate (l' + 1) zs).flatten := by
      by_cases h0 : zs.length = 0
      · have : zs = [] := List.length_eq_zero_iff.1 h0
        subst this
        simp [Builtin.zeroCells, hz2]
      · have := range_zeros zs zs.length rfl (by omega) (l' + 1)
        rw [← this]
        simp [Builtin.zeroCells, hz2]
    simp [builtin, Builtin.clear_, ht.run, hz1, hzc, e1])
end cuts
end
end Go.Sl

/-
  Contracts packed; several results; slices turned stringish; sums, products and bits of bytes.
-/
set_option linter.unusedVariables false
set_option linter.unusedSimpArgs false
namespace Go.Sl
open Go

section
variable {g : World} {P : Program} {ops : Array Oper} {Q : Exit → Act → World → Prop} {n : Nat} {rest : List Oper} {L : Fm} {H : HH} {q : Bool}
variable {d : Nat} {ty : TypeId} {pos : String} {af : Array Edge} {v v2 : Value}

theorem whole {cs : List Value} {m : Nat} (h : cs.length = m) : (cs.drop 0).take m = cs := by subst h; simp
theorem WX.nilH {os : List Oper} (h : WX q g P ops Q n os L ([] :: H)) : WX q g P ops Q n os L H := WX.flat (H' := [] :: H) rfl h
/-- A contract over the same memory, cut otherwise. -/
theorem Ct.pack {f : FuncId} {args : List Value} {pre pre' : HH} {post post' : Value → HH → Prop} (h : Ct P f args pre post) (e : pre'.flatten = pre.flatten) (k : ∀ v H', post v H' → ∃ H'', H''.flatten = H'.flatten ∧ post' v H'') : Ct P f args pre' post' :=
  ⟨fun g R w hw => (h.calls g R w (by simpa [e] using hw)).mono fun _ _ ⟨v, H', he, p, o⟩ => by
    obtain ⟨H'', e2, p2⟩ := k v H' p
    exact ⟨v, H'', he, p2, by simpa [e2] using o⟩⟩

/-- The same, with something let go. -/
theorem Ct.packP {f : FuncId} {args : List Value} {pre pre' : HH} {post post' : Value → HH → Prop} (h : Ct P f args pre post) (e : pre'.flatten = pre.flatten) (k : ∀ v H', post v H' → ∃ H'' X, (H''.flatten ++ X).Perm H'.flatten ∧ post' v H'') : Ct P f args pre' post' :=
  ⟨fun g R w hw => (h.calls g R w (by simpa [e] using hw)).mono fun en w' ⟨v, H', he, p, o⟩ => by
    obtain ⟨H'', X, e2, p2⟩ := k v H' p
    refine ⟨v, H'', he, p2, ?_⟩
    have o1 : on g (H'.flatten ++ R) w' := by simpa using o
    have o2 : on g (H''.flatten ++ X ++ R) w' := o1.perm (e2.symm.append_right R)
    have o3 : on g (H''.flatten ++ R ++ X) w' := o2.perm (by
      rw [List.append_assoc, List.append_assoc]
      exact List.Perm.append_left _ List.perm_append_comm)
    simpa using o3.left⟩
theorem Ct.frame {f : FuncId} {args : List Value} {pre F : HH} {post post' : Value → HH → Prop} (h : Ct P f args pre post) (k : ∀ v H', post v H' → post' v (H' ++ F)) : Ct P f args (pre ++ F) post' :=
  ⟨fun g R w hw => (h.calls g (F.flatten ++ R) w (by simpa using hw)).mono fun _ _ ⟨v, H', he, p, o⟩ => ⟨v, H' ++ F, he, k v H' p, by simpa using o⟩⟩
theorem Ct.ext {f : FuncId} {args : List Value} {x r : Hp} {u : Value} (h : Ct P f args [x] (fun v H' => v = u ∧ H' = [x])) : Ct P f args [x ++ r] (fun v H' => v = u ∧ H' = [x ++ r]) :=
  (Ct.frame (F := [r]) (post' := fun v H' => v = u ∧ H' = [x, r]) h (fun v H' p => ⟨p.1, by rw [p.2]; rfl⟩)).pack (by simp) (fun v H' p => ⟨[x ++ r], by rw [p.2]; simp, p.1, rfl⟩)
theorem Ct.extW {f : FuncId} {args : List Value} {x y r : Hp} {u : Value} {Q : Hp → Prop} (h : Ct P f args [x] (fun v H' => v = u ∧ H' = [y])) (k : Q (y ++ r)) : Ct P f args [x ++ r] (fun v H' => ∃ h', v = u ∧ H' = [h'] ∧ Q h') :=
  (Ct.frame (F := [r]) (post' := fun v H' => v = u ∧ H' = [y, r]) h (fun v H' p => ⟨p.1, by rw [p.2]; rfl⟩)).pack (by simp) (fun v H' p => ⟨[y ++ r], by rw [p.2]; simp, _, p.1, rfl, k⟩)
theorem IsSl.sh {α : Type} [Enc α] {T : Nat} {xs : List α} {v : Value} {h : Hp} (hs : IsSl T xs v h) : ∃ p n c, v = .slice p n c := let ⟨p, c, e⟩ := hs.len; ⟨p, _, c, e⟩
theorem IsSl.congr {α : Type} [Enc α] {T : Nat} {xs ys : List α} {v : Value} {h : Hp} (hs : IsSl T xs v h) (e1 : encs xs = encs ys) (e2 : xs.length = ys.length) : IsSl T ys v h := by
  rcases hs with ⟨rfl, rfl, rfl⟩ | ⟨b, cap, sp, fr, rfl, rfl, h1, h2, h3⟩
  · exact .inl ⟨rfl, List.length_eq_zero_iff.1 e2.symm, rfl⟩
  · exact .inr ⟨b, cap, sp, fr, by rw [e2], by rw [e1], by rw [← e2]; exact h1, by rw [← e2]; exact h2, h3⟩

-- results
/-- What stands in the result places. -/
inductive Res (P : Program) (L : Fm) (H : HH) : List ResultVar → List Value → Prop
  | nil : Res P L H [] []
  | tmp {t : Nat} {v : Value} {rs : List ResultVar} {vs : List Value} (h : lk L t = some v) (r : Res P L H rs vs) : Res P L H (.tmp t :: rs) (v :: vs)
  | cellA {c b T T' m : Nat} {fr : Nat × Nat} {us : List Value} {K : Obj → HH} {rs : List ResultVar} {vs : List Value} (hl : lk L c = some (.pointer (some ⟨b, 0, none⟩))) [ht : TL P T m true] [hf : Foc b (.cells (List.toArray us) T' fr) H K]
      (hm : us.length = m) (r : Res P L H rs vs) : Res P L H (.cell c T :: rs) (.agg us.toArray :: vs)
  | cell1 {c b T T' : Nat} {fr : Nat × Nat} {u : Value} {K : Obj → HH} {rs : List ResultVar} {vs : List Value} (hl : lk L c = some (.pointer (some ⟨b, 0, none⟩))) [ht : TL P T 1 false] [hf : Foc b (.cells (List.toArray [u]) T' fr) H K]
      (r : Res P L H rs vs) : Res P L H (.cell c T :: rs) (u :: vs)
def resOf (tmps : Array Value) : ResultVar → Sem Value
  | .tmp t => pure (tmps.getD t undef)
  | .cell a t => do loadVar t (← asAddr (tmps.getD a undef))
theorem Res.run {rs : List ResultVar} {vs : List Value} {a : Act} {w : World} (h : Res P L H rs vs) (ha : Fr n L a) (hw : on g H.flatten w) : (rs.mapM (resOf a.tmps)).run P w = .ok vs w := by
  induction h with
  | nil => simp
  | tmp h r ih =>
    rename_i t v rs vs
    have hc : (resOf a.tmps (.tmp t)).run P w = .ok v w := by simp only [resOf, Sem.run_pure, ha.getD h]
    simp only [List.mapM_cons, Sem.run_bind, Sem.run_pure, Result.andThen_ok, ih, hc]
  | cellA hl hm r ih =>
    rename_i c b T T' m fr us K rs vs ht hf
    have h1 : (loadVar T ⟨b, 0, none⟩).run P w = .ok (.agg us.toArray) w := by
      subst hm
      have := run_loadCells_list (P := P) w ⟨b, 0, none⟩ us (fun j v e => by rw [add_none]; rw [Nat.zero_add, cell_bk (hf.heap hw)]; exact e)
      simp [loadVar, ht.isAgg, ht.sizeOf, this]
    have hc : (resOf a.tmps (.cell c T)).run P w = .ok (.agg us.toArray) w := by simp only [resOf, ha.getD hl, asAddr, Sem.run_bind, Sem.run_pure, Result.andThen_ok, h1]
    simp only [List.mapM_cons, Sem.run_bind, Sem.run_pure, Result.andThen_ok, ih, hc]
  | cell1 hl r ih =>
    rename_i c b T T' fr u K rs vs ht hf
    have h1 : (loadVar T ⟨b, 0, none⟩).run P w = .ok u w := by
      have : w.cell? ⟨b, 0, none⟩ = some u := by rw [cell_bk (hf.heap hw)]; rfl
      simp [loadVar, ht.isAgg, this]
    have hc : (resOf a.tmps (.cell c T)).run P w = .ok u w := by simp only [resOf, ha.getD hl, asAddr, Sem.run_bind, Sem.run_pure, Result.andThen_ok, h1]
    simp only [List.mapM_cons, Sem.run_bind, Sem.run_pure, Result.andThen_ok, ih, hc]
theorem Res.results {fn : Func} {rs : List ResultVar} {vs : List Value} {a : Act} {w : World} (hr : fn.results = rs.toArray) (h : Res P L H rs vs) (ha : Fr n L a) (hw : on g H.flatten w) :
    (Go.results fn a.tmps).run P w = .ok (if h : vs.toArray.size = 1 then vs.toArray[0] else .tuple vs.toArray) w := by
  have := h.run ha hw
  have e : (rs.toArray.mapM (resOf a.tmps)).run P w = .ok vs.toArray w := by
    rw [List.mapM_toArray]
    simp [this]
  unfold Go.results
  rw [hr]
  show ((do let vs ← rs.toArray.mapM (resOf a.tmps); pure (if h : vs.size = 1 then vs[0] else .tuple vs)) : Sem Value).run P w = _
  rw [Sem.run_bind, e]
  simp
theorem D.finR {fn : Func} {post : Value → HH → Prop} {R : Hp} {rs : List ResultVar} {vs : List Value} (H' r : HH) (hr : fn.results = rs.toArray) (h : Res P L H rs vs) (h1 : Nat.beq vs.length 1 = false) (hp : post (.tuple vs.toArray) H') [k : Picks (H' ++ [R]) H r] :
    D g (bodyPost P fn (cpost g post R)) .ret n L H :=
  .mk fun a w ha hw => ⟨ha.defers, .tuple vs.toArray, by
    rw [Res.results hr h ha hw, dif_neg]
    simpa using Nat.ne_of_beq_eq_false h1, ⟨_, H', rfl, hp, (Hsub.of_picks k).on hw⟩⟩
/-- One result, out of a cell. -/
theorem D.finR1 {fn : Func} {post : Value → HH → Prop} {R : Hp} {rs : List ResultVar} {v : Value} (H' r : HH) (hr : fn.results = rs.toArray) (h : Res P L H rs [v]) (hp : post v H') [k : Picks (H' ++ [R]) H r] :
    D g (bodyPost P fn (cpost g post R)) .ret n L H :=
  .mk fun a w ha hw => ⟨ha.defers, v, by
    rw [Res.results hr h ha hw]; rfl, ⟨_, H', rfl, hp, (Hsub.of_picks k).on hw⟩⟩

-- []byte("..") of a constant: a mark behind the block
theorem WX.convSl {T : Nat} {xs : List UInt8} {h : Hp} {K : Hp → HH} {x : Operand} {t : Nat} (hx : ev L x = some v) (hs : IsSl T xs v h) (hne : 0 < xs.length) [hw : Swp h H K] [h1 : TU P t (.slice T)] [h2 : TU P T (.int .u8)] (hd : Nat.blt d n = true)
    (kk : ∀ h', IsSl T xs v h' → WX false g P ops Q n rest ((d, v) :: L) (K h')) : WX false g P ops Q n (⟨some d, .convert t t x, ty, pos, af, none⟩ :: rest) L H := by
  obtain ⟨b, cap, sp, fr, rfl, rfl, g1, g2, g3⟩ := hs.ne hne
  refine WX.eff hd fun a w ha ho => ?_
  have hh := (hw.onx ho).2.2 b _ (List.mem_cons_self)
  have hsz : (encs xs ++ sp).length = cap := by
    rw [List.length_append, encs_len, g2]
    show xs.length * 1 + (cap - xs.length) * 1 = cap
    omega
  have hshape : w.shape? b = some (T, (encs xs ++ sp).length) := by simp [World.shape?, hh]
  obtain ⟨fr', hfr, hF⟩ : ∃ fr', (w.freeze ⟨b, (encs xs ++ sp).length, none⟩ 1).heap[b]? = some (.cells (List.toArray (encs xs ++ sp)) T fr') ∧ Free fr' (cap * 1) := by
    refine ⟨if fr.1 == fr.2 then ((encs xs ++ sp).length, (encs xs ++ sp).length + 1) else (Nat.min fr.1 (encs xs ++ sp).length, Nat.max fr.2 ((encs xs ++ sp).length + 1)), ?_, ?_⟩
    · simp only [World.freeze]
      rw [if_neg (by decide)]
      simp only [Array.getElem?_modify, if_true, hh, Option.map_some]
    · have g3' : fr.1 = fr.2 ∨ cap * 1 ≤ fr.1 := g3
      split
      · right; simp only [hsz]; omega
      · rename_i hne
        have hne' : fr.1 ≠ fr.2 := by simpa using hne
        right
        rcases g3' with g3' | g3'
        · exact absurd g3' hne'
        · simp only [hsz]; exact Nat.le_min.2 ⟨g3', by omega⟩
  have hmod : ∀ k, k ≠ b → (w.freeze ⟨b, (encs xs ++ sp).length, none⟩ 1).heap[k]? = w.heap[k]? := fun k hk => by
    simp only [World.freeze]
    rw [if_neg (by decide)]
    simp only [Array.getElem?_modify]
    rw [if_neg (fun e => hk e.symm)]
  refine ⟨_, w.freeze ⟨b, (encs xs ++ sp).length, none⟩ 1, _, ?_, hw.set (T := T) ho ⟨?_, ?_, ?_, ?_⟩ hfr hmod, kk _ (.inr ⟨b, cap, sp, fr', rfl, rfl, g1, g2, hF⟩)⟩
  · simp [execOp, ha.ev hx, convert, h1.run, h2.run, markStringish, hshape]
  all_goals (simp only [World.freeze]; rw [if_neg (by decide)]; try simp)

theorem WX.neqBB {x y : Operand} {t t' : Nat} {b : Bool} (hx : ev L x = some (.bool b)) (hy : ev L y = some (.bool b)) (hd : Nat.blt d n = true) [ht : TU P t .bool]
    (k : WX q g P ops Q n rest ((d, .bool false) :: L) H) : WX q g P ops Q n (⟨some d, .binOp .neq t x y t', ty, pos, af, none⟩ :: rest) L H :=
  WX.neqB hx hy hd (by simpa using k)
theorem WX.eqlBB {x y : Operand} {t t' : Nat} {b : Bool} (hx : ev L x = some (.bool b)) (hy : ev L y = some (.bool b)) (hd : Nat.blt d n = true) [ht : TU P t .bool]
    (k : WX q g P ops Q n rest ((d, .bool true) :: L) H) : WX q g P ops Q n (⟨some d, .binOp .eql t x y t', ty, pos, af, none⟩ :: rest) L H :=
  WX.eqlB hx hy hd (by simpa using k)

-- bytes
section bytes
variable {x y : Operand} {t t' a b : Nat}
theorem WX.xor8 (hx : ev L x = some (.int .u8 (a : Int))) (hy : ev L y = some (.int .u8 (b : Int))) (ha : a < 256) (hb : b < 256) (hd : Nat.blt d n = true)
    (k : WX q g P ops Q n rest ((d, .int .u8 ((a ^^^ b : Nat) : Int)) :: L) H) : WX q g P ops Q n (⟨some d, .binOp .xor t x y t', ty, pos, af, none⟩ :: rest) L H :=
  WX.val (fun ac hac w _ => run_bin (hac.ev hx) (hac.ev hy) run_eqGuard_int (by
    have := u8_xor_nat a b ha hb
    simp only [binOp, ne_eq, not_true_eq_false, if_false, intBits_xor, this, Sem.run_pure])) hd k
theorem WX.and8 (hx : ev L x = some (.int .u8 (a : Int))) (hy : ev L y = some (.int .u8 (b : Int))) (ha : a < 256) (hb : b < 256) (hd : Nat.blt d n = true)
    (k : WX q g P ops Q n rest ((d, .int .u8 ((a &&& b : Nat) : Int)) :: L) H) : WX q g P ops Q n (⟨some d, .binOp .and t x y t', ty, pos, af, none⟩ :: rest) L H :=
  WX.val (fun ac hac w _ => run_bin (hac.ev hx) (hac.ev hy) run_eqGuard_int (by
    have := u8_and_nat a b ha hb
    simp only [binOp, ne_eq, not_true_eq_false, if_false, intBits_and, this, Sem.run_pure])) hd k
/-- A shift to the right by a count. -/
theorem WX.shrN {kd kd' : IntKind} {m : Nat} (hx : ev L x = some (.int kd (a : Int))) (hy : ev L y = some (.int kd' (m : Int))) (hm : m ≤ kd.bits) (hd : Nat.blt d n = true)
    (k : WX q g P ops Q n rest ((d, .int kd ((a / 2 ^ m : Nat) : Int)) :: L) H) : WX q g P ops Q n (⟨some d, .binOp .shr t x y t', ty, pos, af, none⟩ :: rest) L H :=
  WX.val (fun ac hac w _ => run_bin (hac.ev hx) (hac.ev hy) (by unfold eqGuard; rfl) (by
    have h1 : Min.min ((m : Int).toNat) kd.bits = m := by rw [Int.toNat_natCast]; exact Nat.min_eq_left hm
    have h2 : ((a : Int).fdiv (2 ^ m)) = ((a / 2 ^ m : Nat) : Int) := by
      rw [Int.fdiv_eq_ediv_of_nonneg _ (by exact Int.le_of_lt (Int.pow_pos (by decide)))]
      norm_cast
    simp only [binOp, Op.shift]
    rw [if_neg (by omega), h1, h2]
    rfl)) hd k
end bytes
end
end Go.Sl

/-
  The rules again, under short names, with side conditions that fill themselves: for scripts.
-/
set_option linter.unusedVariables false
set_option linter.unusedSimpArgs false
namespace Go.Sl
open Go

/-- What is left of a goal of control. -/
class Go1 (G : Prop) (S : outParam Prop) : Prop where
  h : S → G
theorem go {G S : Prop} [i : Go1 G S] (h : S) : G := i.h h

section
variable {g : World} {P : Program} {ops : Array Oper} {Q : Exit → Act → World → Prop} {n : Nat} {rest os tail : List Oper} {L : Fm} {H Hc : HH} {q : Bool} {z : List (Bool × Oper)} {o : Oper}
variable {d : Nat} {ty : TypeId} {pos : String} {af : Array Edge} {v : Value}

instance {x y : Code} : Go1 (W g P (.seq x y) Q n L H) (W g P x (Exit.then (y.wp P Q) Q) n L H) := ⟨W.seq⟩
instance {id : Nat} {l : List Oper} : Go1 (W g P (.region id l.toArray false) Q n L H) (WX false g P l.toArray Q n l L H) := ⟨W.region⟩
instance : Go1 (WX q g P ops Q n [] L H) (D g Q .normal n L H) := ⟨WX.nil⟩
instance {y : Code} : Go1 (D g (Exit.then (y.wp P Q) Q) .normal n L H) (W g P y Q n L H) := ⟨D.seq⟩
instance {id : Nat} {c : Code} : Go1 (W g P (.block id c) Q n L H) (W g P c (Exit.inBlock id Q) n L H) := ⟨W.block⟩
instance {id : Nat} : Go1 (D g (Exit.inBlock id Q) .normal n L H) (D g Q .normal n L H) := ⟨D.blk⟩
instance : Go1 (W g P .skip Q n L H) (D g Q .normal n L H) := ⟨W.skip⟩
instance {id : Nat} : Go1 (W g P (.exit id) Q n L H) (D g Q (.exit id) n L H) := ⟨W.exit⟩
instance : Go1 (W g P .ret Q n L H) (D g Q .ret n L H) := ⟨W.ret⟩
instance : Go1 (D g (Qun g P ops Q Hc tail z H) .normal n L Hc) (WM g P ops Q n Hc tail z L H) := ⟨WM.backU⟩
instance {r : HH} [k : Picks Hc H r] : Go1 (D g (Qan g P ops Q Hc tail z) .normal n L H) (WM g P ops Q n Hc tail z L H) := ⟨WM.back⟩
instance {id : Nat} : Go1 (D g (Exit.inBlock id Q) (.exit id) n L H) (D g Q .normal n L H) := ⟨D.blkX⟩
instance {N : Act → World → Prop} {id : Nat} : Go1 (D g (Exit.then N Q) (.exit id) n L H) (D g Q (.exit id) n L H) := ⟨D.roundX⟩
instance {N : Act → World → Prop} : Go1 (D g (Exit.then N Q) .ret n L H) (D g Q .ret n L H) := ⟨D.roundR⟩
instance {id : Nat} : Go1 (D g (Exit.inBlock id Q) .ret n L H) (D g Q .ret n L H) := ⟨D.blkR⟩

theorem zY {id id' : Nat} (h : D g Q (.exit id') n L H) (ne : Nat.beq id' id = false := by exact rfl) : D g (Exit.inBlock id Q) (.exit id') n L H := D.blkY ne h
theorem mN (h : WX false g P ops Q n tail L H) : WM g P ops Q n Hc tail [] L H := WM.nil h
theorem mU {r : HH} [nv : NV P o] [k : Picks Hc H r] (h : WX true g P ops (Qun g P ops Q Hc tail z H) n [o] L Hc) : WM g P ops Q n Hc tail ((true, o) :: z) L H := WM.un h
theorem mA [nd : ND P o] (h : WX false g P ops (Qan g P ops Q Hc tail z) n [o] L H) : WM g P ops Q n Hc tail ((false, o) :: z) L H := WM.an h

-- conditions
section conds
variable {c : Operand} {x y : Code} {p : Prop} [Decidable p]
theorem cT (h : W g P x Q n L H) (hc : ev L c = some (.bool true) := by exact rfl) : W g P (.cond c x y) Q n L H := W.condT hc h
theorem cF (h : W g P y Q n L H) (hc : ev L c = some (.bool false) := by exact rfl) : W g P (.cond c x y) Q n L H := W.condF hc h
theorem cP (h : W g P x Q n L H) (hc : ev L c = some (.bool (decide p)) := by exact rfl) (hp : p := by first | assumption | omega) : W g P (.cond c x y) Q n L H := W.condP hc hp h
theorem cN (h : W g P y Q n L H) (hc : ev L c = some (.bool (decide p)) := by exact rfl) (hp : ¬ p := by first | assumption | omega) : W g P (.cond c x y) Q n L H := W.condN hc hp h
end conds

-- guards
section guards
variable {dst : Option Tmp} {op : Op} {j t : Nat} {want b : Bool} {p : Prop} [Decidable p]
theorem gy (k : WX q g P ops Q n (⟨dst, op, ty, pos, af, none⟩ :: rest) L H) (hj : (ops[j]?).bind (·.dst) = some t := by exact rfl) (ht : lk L t = some (.bool want) := by exact rfl) :
    WX q g P ops Q n (⟨dst, op, ty, pos, af, some (j, want)⟩ :: rest) L H := WX.gy hj ht k
theorem gn (k : WX q g P ops Q n rest ((d, undef) :: L) H) (hj : (ops[j]?).bind (·.dst) = some t := by exact rfl) (ht : lk L t = some (.bool b) := by exact rfl) (hne : (b == want) = false := by exact rfl) (hd : Nat.blt d n = true := by exact rfl) :
    WX q g P ops Q n (⟨some d, op, ty, pos, af, some (j, want)⟩ :: rest) L H := WX.gn hj ht hne hd k
theorem gnN (k : WX q g P ops Q n rest L H) (hj : (ops[j]?).bind (·.dst) = some t := by exact rfl) (ht : lk L t = some (.bool b) := by exact rfl) (hne : (b == want) = false := by exact rfl) :
    WX q g P ops Q n (⟨none, op, ty, pos, af, some (j, want)⟩ :: rest) L H := WX.gnN hj ht hne k
theorem gu (k : WX q g P ops Q n rest ((d, undef) :: L) H) (hj : (ops[j]?).bind (·.dst) = some t := by exact rfl) (ht : lk L t = some undef := by exact rfl) (hd : Nat.blt d n = true := by exact rfl) :
    WX q g P ops Q n (⟨some d, op, ty, pos, af, some (j, want)⟩ :: rest) L H := WX.gu hj ht hd k
theorem guN (k : WX q g P ops Q n rest L H) (hj : (ops[j]?).bind (·.dst) = some t := by exact rfl) (ht : lk L t = some undef := by exact rfl) :
    WX q g P ops Q n (⟨none, op, ty, pos, af, some (j, want)⟩ :: rest) L H := WX.guN hj ht k
theorem gT (k : WX q g P ops Q n (⟨dst, op, ty, pos, af, some (j, want)⟩ :: rest) ((t, .bool true) :: L) H) (hj : (ops[j]?).bind (·.dst) = some t := by exact rfl) (ht : lk L t = some (.bool (decide p)) := by exact rfl)
    (hp : p := by first | assumption | omega) : WX q g P ops Q n (⟨dst, op, ty, pos, af, some (j, want)⟩ :: rest) L H := WX.gT hj ht hp k
theorem gF (k : WX q g P ops Q n (⟨dst, op, ty, pos, af, some (j, want)⟩ :: rest) ((t, .bool false) :: L) H) (hj : (ops[j]?).bind (·.dst) = some t := by exact rfl) (ht : lk L t = some (.bool (decide p)) := by exact rfl)
    (hp : ¬ p := by first | assumption | omega) : WX q g P ops Q n (⟨dst, op, ty, pos, af, some (j, want)⟩ :: rest) L H := WX.gF hj ht hp k
theorem gS (k1 : p → WX q g P ops Q n (⟨dst, op, ty, pos, af, some (j, want)⟩ :: rest) ((t, .bool true) :: L) H) (k2 : ¬ p → WX q g P ops Q n (⟨dst, op, ty, pos, af, some (j, want)⟩ :: rest) ((t, .bool false) :: L) H)
    (hj : (ops[j]?).bind (·.dst) = some t := by exact rfl) (ht : lk L t = some (.bool (decide p)) := by exact rfl) : WX q g P ops Q n (⟨dst, op, ty, pos, af, some (j, want)⟩ :: rest) L H := WX.gS hj ht k1 k2
end guards

-- values
section vals
variable {x y c : Operand} {t t' : Nat}
theorem mv (k : WX q g P ops Q n rest ((d, v) :: L) H) (hx : ev L x = some v := by exact rfl) (hd : Nat.blt d n = true := by exact rfl) : WX q g P ops Q n (⟨some d, .move x, ty, pos, af, none⟩ :: rest) L H := WX.move hx hd k
theorem asg (k : WX q g P ops Q n rest ((d, v) :: L) H) (hx : ev L x = some v := by exact rfl) (hd : Nat.blt d n = true := by exact rfl) : WX q g P ops Q n (⟨some d, .assign x, ty, pos, af, none⟩ :: rest) L H := WX.assign hx hd k
theorem pT (k : WX q g P ops Q n rest ((d, v) :: L) H) (hc : ev L c = some (.bool true) := by exact rfl) (hx : ev L x = some v := by exact rfl) (hd : Nat.blt d n = true := by exact rfl) : WX q g P ops Q n (⟨some d, .pick c x y, ty, pos, af, none⟩ :: rest) L H := WX.pickT hc hx hd k
theorem pF (k : WX q g P ops Q n rest ((d, v) :: L) H) (hc : ev L c = some (.bool false) := by exact rfl) (hx : ev L y = some v := by exact rfl) (hd : Nat.blt d n = true := by exact rfl) : WX q g P ops Q n (⟨some d, .pick c x y, ty, pos, af, none⟩ :: rest) L H := WX.pickF hc hx hd k
theorem nc {p : Addr} (k : WX q g P ops Q n rest ((d, .pointer (some p)) :: L) H) (hx : ev L x = some (.pointer (some p)) := by exact rfl) (hd : Nat.blt d n = true := by exact rfl) : WX q g P ops Q n (⟨some d, .nilCheck x, ty, pos, af, none⟩ :: rest) L H := WX.nilCheck hx hd k
theorem fa {f b i off : Nat} [h : TF P t f off] (k : WX q g P ops Q n rest ((d, .pointer (some ⟨b, i + off, none⟩)) :: L) H) (hx : ev L x = some (.pointer (some ⟨b, i, none⟩)) := by exact rfl) (hd : Nat.blt d n = true := by exact rfl) :
    WX q g P ops Q n (⟨some d, .fieldAddr t x f, ty, pos, af, none⟩ :: rest) L H := WX.fieldAddr hx hd k
/-- What a comparison of numbers yields. -/
class CmpV (bo : BinOp) (i j : Int) (v : outParam Value) : Prop where
  h : ∀ {g : World} {P : Program} {ops : Array Oper} {Q : Exit → Act → World → Prop} {n : Nat} {rest : List Oper} {L : Fm} {H : HH} {q : Bool} {d : Nat} {ty : TypeId} {pos : String} {af : Array Edge} {x y : Operand} {t t' : Nat} {kd : IntKind},
    ev L x = some (.int kd i) → ev L y = some (.int kd j) → Nat.blt d n = true → WX q g P ops Q n rest ((d, v) :: L) H → WX q g P ops Q n (⟨some d, .binOp bo t x y t', ty, pos, af, none⟩ :: rest) L H
instance {i j : Int} : CmpV .lss i j (.bool (decide (i < j))) := ⟨WX.lss⟩
instance {i j : Int} : CmpV .leq i j (.bool (decide (i ≤ j))) := ⟨WX.leq⟩
instance {i j : Int} : CmpV .gtr i j (.bool (decide (j < i))) := ⟨WX.gtr⟩
instance {i j : Int} : CmpV .geq i j (.bool (decide (j ≤ i))) := ⟨WX.geq⟩
instance {i j : Int} : CmpV .eql i j (.bool (decide (i = j))) := ⟨WX.eql⟩
instance {i j : Int} : CmpV .neq i j (.bool (decide (¬ i = j))) := ⟨WX.neq⟩
theorem cm {bo : BinOp} {i j : Int} {kd : IntKind} (hx : ev L x = some (.int kd i)) (hy : ev L y = some (.int kd j)) [cv : CmpV bo i j v] (k : WX q g P ops Q n rest ((d, v) :: L) H) (hd : Nat.blt d n = true := by exact rfl) : WX q g P ops Q n (⟨some d, .binOp bo t x y t', ty, pos, af, none⟩ :: rest) L H := cv.h hx hy hd k
theorem ad {i j : Int} (k : WX q g P ops Q n rest ((d, .int .i64 (i + j)) :: L) H) (hx : ev L x = some (.int .i64 i) := by exact rfl) (hy : ev L y = some (.int .i64 j) := by exact rfl) (hd : Nat.blt d n = true := by exact rfl)
    (r : -9223372036854775808 ≤ i + j ∧ i + j ≤ 9223372036854775807 := by omega) : WX q g P ops Q n (⟨some d, .binOp .add t x y t', ty, pos, af, none⟩ :: rest) L H := WX.add hx hy hd r k
theorem su {i j : Int} (k : WX q g P ops Q n rest ((d, .int .i64 (i - j)) :: L) H) (hx : ev L x = some (.int .i64 i) := by exact rfl) (hy : ev L y = some (.int .i64 j) := by exact rfl) (hd : Nat.blt d n = true := by exact rfl)
    (r : -9223372036854775808 ≤ i - j ∧ i - j ≤ 9223372036854775807 := by omega) : WX q g P ops Q n (⟨some d, .binOp .sub t x y t', ty, pos, af, none⟩ :: rest) L H := WX.sub' hx hy hd r k
theorem mu {i j : Int} (k : WX q g P ops Q n rest ((d, .int .i64 (i * j)) :: L) H) (hx : ev L x = some (.int .i64 i) := by exact rfl) (hy : ev L y = some (.int .i64 j) := by exact rfl) (hd : Nat.blt d n = true := by exact rfl)
    (r : -9223372036854775808 ≤ i * j ∧ i * j ≤ 9223372036854775807 := by omega) : WX q g P ops Q n (⟨some d, .binOp .mul t x y t', ty, pos, af, none⟩ :: rest) L H := WX.mul hx hy hd r k
theorem re {i j : Int} {kd : IntKind} (k : WX q g P ops Q n rest ((d, .int kd (i.tmod j)) :: L) H) (hx : ev L x = some (.int kd i) := by exact rfl) (hy : ev L y = some (.int kd j) := by exact rfl) (hd : Nat.blt d n = true := by exact rfl)
    (r : j ≠ 0 := by omega) : WX q g P ops Q n (⟨some d, .binOp .rem t x y t', ty, pos, af, none⟩ :: rest) L H := WX.rem hx hy hd r k
/-- A pointer held against nil. -/
class NilV (bo : BinOp) (p : Option Addr) (v : outParam Value) : Prop where
  h : ∀ {g : World} {P : Program} {ops : Array Oper} {Q : Exit → Act → World → Prop} {n : Nat} {rest : List Oper} {L : Fm} {H : HH} {q : Bool} {d : Nat} {ty : TypeId} {pos : String} {af : Array Edge} {x y : Operand} {t t' e : Nat} [ht : TU P t (.pointer e)],
    ev L x = some (.pointer p) → ev L y = some (.pointer none) → Nat.blt d n = true → WX q g P ops Q n rest ((d, v) :: L) H → WX q g P ops Q n (⟨some d, .binOp bo t x y t', ty, pos, af, none⟩ :: rest) L H
instance {p : Addr} : NilV .eql (some p) (.bool false) := ⟨fun h1 h2 h3 k => WX.eqPN h1 h2 h3 k⟩
instance {p : Addr} : NilV .neq (some p) (.bool true) := ⟨fun h1 h2 h3 k => WX.nePN h1 h2 h3 k⟩
instance : NilV .eql none (.bool true) := ⟨fun h1 h2 h3 k => WX.eqNN h1 h2 h3 k⟩
instance : NilV .neq none (.bool false) := ⟨fun h1 h2 h3 k => WX.neNN h1 h2 h3 k⟩
theorem np {bo : BinOp} {p : Option Addr} {e : Nat} [ht : TU P t (.pointer e)] (hx : ev L x = some (.pointer p)) (hy : ev L y = some (.pointer none)) [cv : NilV bo p v] (k : WX q g P ops Q n rest ((d, v) :: L) H) (hd : Nat.blt d n = true := by exact rfl) : WX q g P ops Q n (⟨some d, .binOp bo t x y t', ty, pos, af, none⟩ :: rest) L H := cv.h hx hy hd k
theorem eS {a b : ByteArray} [ht : TU P t .string] (k : WX q g P ops Q n rest ((d, .bool (decide (a = b))) :: L) H) (hx : ev L x = some (.string a) := by exact rfl) (hy : ev L y = some (.string b) := by exact rfl) (hd : Nat.blt d n = true := by exact rfl) :
    WX q g P ops Q n (⟨some d, .binOp .eql t x y t', ty, pos, af, none⟩ :: rest) L H := WX.eqlS hx hy hd k
theorem nS {a b : ByteArray} [ht : TU P t .string] (k : WX q g P ops Q n rest ((d, .bool (decide (¬ a = b))) :: L) H) (hx : ev L x = some (.string a) := by exact rfl) (hy : ev L y = some (.string b) := by exact rfl) (hd : Nat.blt d n = true := by exact rfl) :
    WX q g P ops Q n (⟨some d, .binOp .neq t x y t', ty, pos, af, none⟩ :: rest) L H := WX.neqS hx hy hd k
theorem nD {p : Prop} [Decidable p] (k : WX q g P ops Q n rest ((d, .bool (decide (¬ p))) :: L) H) (hx : ev L x = some (.bool (decide p)) := by exact rfl) (hd : Nat.blt d n = true := by exact rfl) : WX q g P ops Q n (⟨some d, .unOp .not t x, ty, pos, af, none⟩ :: rest) L H := WX.notD hx hd k
theorem nt {b : Bool} (k : WX q g P ops Q n rest ((d, .bool (!b)) :: L) H) (hx : ev L x = some (.bool b) := by exact rfl) (hd : Nat.blt d n = true := by exact rfl) : WX q g P ops Q n (⟨some d, .unOp .not t x, ty, pos, af, none⟩ :: rest) L H := WX.not hx hd k
theorem l1 {e : Nat} {p : Option Addr} {l c : Nat} [ht : TU P t (.slice e)] (k : WX q g P ops Q n rest ((d, .int .i64 l) :: L) H) (hx : ev L x = some (.slice p l c) := by exact rfl) (hd : Nat.blt d n = true := by exact rfl) :
    WX q g P ops Q n (⟨some d, .call ⟨.builtin .len, #[x], #[t]⟩, ty, pos, af, none⟩ :: rest) L H := WX.len hx hd k
theorem lS {s : ByteArray} [ht : TU P t .string] (k : WX q g P ops Q n rest ((d, .int .i64 s.size) :: L) H) (hx : ev L x = some (.string s) := by exact rfl) (hd : Nat.blt d n = true := by exact rfl) :
    WX q g P ops Q n (⟨some d, .call ⟨.builtin .len, #[x], #[t]⟩, ty, pos, af, none⟩ :: rest) L H := WX.lenS hx hd k
theorem mi {i j : Int} {kd : IntKind} {ts : Array TypeId} (k : WX q g P ops Q n rest ((d, .int kd (if j < i then j else i)) :: L) H) (hx : ev L x = some (.int kd i) := by exact rfl) (hy : ev L y = some (.int kd j) := by exact rfl) (hd : Nat.blt d n = true := by exact rfl) :
    WX q g P ops Q n (⟨some d, .call ⟨.builtin .min, #[x, y], ts⟩, ty, pos, af, none⟩ :: rest) L H := WX.min hx hy hd k
theorem ma {i j : Int} {kd : IntKind} {ts : Array TypeId} (k : WX q g P ops Q n rest ((d, .int kd (if j > i then j else i)) :: L) H) (hx : ev L x = some (.int kd i) := by exact rfl) (hy : ev L y = some (.int kd j) := by exact rfl) (hd : Nat.blt d n = true := by exact rfl) :
    WX q g P ops Q n (⟨some d, .call ⟨.builtin .max, #[x, y], ts⟩, ty, pos, af, none⟩ :: rest) L H := WX.max hx hy hd k
theorem ex {i : Nat} {vs : List Value} (k : WX q g P ops Q n rest ((d, v) :: L) H) (hx : ev L x = some (.tuple vs.toArray) := by exact rfl) (hi : vs[i]? = some v := by exact rfl) (hd : Nat.blt d n = true := by exact rfl) :
    WX q g P ops Q n (⟨some d, .extract x i, ty, pos, af, none⟩ :: rest) L H := WX.extract hx hi hd k
end vals

-- memory
section mem
variable {x y z : Operand} {t t' b i T m : Nat} {ag : Bool} {cs cs' vs : List Value} {fr : Nat × Nat} {K : Obj → HH}
theorem ld [ht : TL P t 1 false] (hx : ev L x = some (.pointer (some ⟨b, i, none⟩))) [hf : Foc b (.cells (List.toArray cs) T fr) H K] (k : WX q g P ops Q n rest ((d, v) :: L) H) (hc : cs[i]? = some v := by exact rfl) (hd : Nat.blt d n = true := by exact rfl) :
    WX q g P ops Q n (⟨some d, .load t x, ty, pos, af, none⟩ :: rest) L H := WX.load hx hc hd k
theorem lA [ht : TL P t m true] (hx : ev L x = some (.pointer (some ⟨b, i, none⟩))) [hf : Foc b (.cells (List.toArray cs) T fr) H K] (k : WX q g P ops Q n rest ((d, .agg vs.toArray) :: L) H)
    (hc : (cs.drop i).take m = vs := by first | exact whole rfl | (simp only [Enc.enc, Nat.zero_add, Nat.reduceAdd, List.drop_zero, List.drop_succ_cons, List.take_succ_cons, List.take_zero]; rfl)) (hl : vs.length = m := by exact rfl) (hd : Nat.blt d n = true := by exact rfl) :
    WX q g P ops Q n (⟨some d, .load t x, ty, pos, af, none⟩ :: rest) L H := WX.loadA hx hc hl hd k
theorem st [ht : TL P t 1 false] (hx : ev L x = some (.pointer (some ⟨b, i, none⟩))) (hy : ev L y = some v) [hf : Foc b (.cells (List.toArray cs) T (0, 0)) H K] (k : WX false g P ops Q n rest L (K (.cells (List.toArray cs') T (0, 0))))
    (e : cs.set i v = cs' := by first | (simp only [List.set_cons_zero, List.set_cons_succ, Nat.zero_add, Nat.reduceAdd]; rfl) | exact rfl) (h1 : v.oneCell' = true := by exact rfl) (hb : Nat.blt i cs.length = true := by exact rfl) :
    WX false g P ops Q n (⟨none, .store t x y, ty, pos, af, none⟩ :: rest) L H := by subst e; exact WX.store hx hy h1 hb k
theorem sG [ht : TL P t m ag] (hx : ev L x = some (.pointer (some ⟨b, i, none⟩))) (hy : ev L y = some v) [hf : Foc b (.cells (List.toArray cs) T (0, 0)) H K] (k : WX false g P ops Q n rest L (K (.cells (List.toArray cs') T (0, 0))))
    (hv : v.cells = vs.toArray := by exact rfl) (e : setAt cs i vs = cs' := by first | exact setAt_whole rfl | (simp only [setAt, List.set_cons_zero, List.set_cons_succ, Nat.zero_add, Nat.reduceAdd]; rfl) | exact rfl) (hl : vs.length = m := by exact rfl) (h1 : oneCells vs = true := by exact rfl)
    (hb : Nat.ble (i + vs.length) cs.length = true := by exact rfl) : WX false g P ops Q n (⟨none, .store t x y, ty, pos, af, none⟩ :: rest) L H := by subst e; exact WX.storeG hx hy hv hl h1 hb k
theorem bx (hx : ev L x = some v) (k : ∀ b, WX false g P ops Q n rest ((d, .pointer (some ⟨b, 0, none⟩)) :: L) ([(b, .cells (List.toArray vs) t (0, 0))] :: H)) (hv : v.cells = vs.toArray := by exact rfl) (hd : Nat.blt d n = true := by exact rfl) :
    WX false g P ops Q n (⟨some d, .box t x, ty, pos, af, none⟩ :: rest) L H := WX.box hx hv hd k
theorem al [hz : TZ P t vs] (k : ∀ b, WX false g P ops Q n rest ((d, .pointer (some ⟨b, 0, none⟩)) :: L) ([(b, .cells (List.toArray vs) t (0, 0))] :: H)) (hd : Nat.blt d n = true := by exact rfl) : WX false g P ops Q n (⟨some d, .alloc t, ty, pos, af, none⟩ :: rest) L H := WX.alloc hd k
theorem bd {parts : List (Nat × Operand)} {zs cs0 : List Value} {pl : List (Nat × Nat)} [hz : TZ P t zs] [hp : TP P t pl] (k : WX q g P ops Q n rest ((d, .agg cs.toArray) :: L) H) (hx : evs L (parts.map (·.2)) = some vs := by exact rfl)
    (hf' : fillL pl zs ((parts.map (·.1)).zip vs) = some cs0 := by exact rfl) (e : cs0 = cs := by first | (simp only [setAt, Value.cells, List.set_cons_zero, List.set_cons_succ]; rfl) | exact rfl) (hd : Nat.blt d n = true := by exact rfl) :
    WX q g P ops Q n (⟨some d, .build t parts.toArray, ty, pos, af, none⟩ :: rest) L H := by subst e; exact WX.build hx hf' hd k
/-- An element of an array behind a pointer. -/
theorem iP {len e off : Nat} {j : Int} {kd : IntKind} [ht : TU P t (.array len e)] [hl : TL P e m ag] (k : WX q g P ops Q n rest ((d, .pointer (some ⟨b, off + j.toNat * m, none⟩)) :: L) H) (hx : ev L x = some (.pointer (some ⟨b, off, none⟩)) := by exact rfl)
    (hi : ev L y = some (.int kd j) := by exact rfl) (h0 : 0 ≤ j ∧ j < len := by omega) (hd : Nat.blt d n = true := by exact rfl) : WX q g P ops Q n (⟨some d, .indexAddr t x y, ty, pos, af, none⟩ :: rest) L H := WX.idxP hx hi h0 hd k
end mem

-- slices
section sls
variable {α : Type} [E : Enc α] {xs : List α} {y : α} {h : Hp} {K : Hp → HH} {x i : Operand} {t f m off off' k e : Nat} {ag : Bool} {kd : IntKind} {u : Value}
theorem ln [ht : TU P t (.slice e)] (hx : ev L x = some v) (hs : Rs xs v h) (kk : WX q g P ops Q n rest ((d, .int .i64 xs.length) :: L) H) (hd : Nat.blt d n = true := by exact rfl) : WX q g P ops Q n (⟨some d, .call ⟨.builtin .len, #[x], #[t]⟩, ty, pos, af, none⟩ :: rest) L H := WX.lenSl hx hs hd kk
theorem ix [ht : TU P t (.slice e)] [hl : TL P e m ag] (hx : ev L x = some v) (hi : ev L i = some (.int kd (k : Int))) (kk : WX q g P ops Q n rest ((d, eptr v k m 0) :: L) H) (hs : Rs xs v h := by assumption) (hk : xs[k]? = some y := by assumption) (hd : Nat.blt d n = true := by exact rfl) :
    WX q g P ops Q n (⟨some d, .indexAddr t x i, ty, pos, af, none⟩ :: rest) L H := WX.idx hx hi hs hk hd kk
theorem iI {j : Int} [ht : TU P t (.slice e)] [hl : TL P e m ag] (hx : ev L x = some v) (hi : ev L i = some (.int kd j)) (kk : WX q g P ops Q n rest ((d, eptr v j.toNat m 0) :: L) H) (hs : Rs xs v h := by assumption) (h0 : 0 ≤ j := by omega) (hk : xs[j.toNat]? = some y := by assumption) (hd : Nat.blt d n = true := by exact rfl) :
    WX q g P ops Q n (⟨some d, .indexAddr t x i, ty, pos, af, none⟩ :: rest) L H := WX.idxI hx hi hs h0 hk hd kk
theorem nE (hx : ev L x = some (eptr v k m off)) (kk : WX q g P ops Q n rest ((d, eptr v k m off) :: L) H) (hs : Rs xs v h := by assumption) (hk : xs[k]? = some y := by assumption) (hd : Nat.blt d n = true := by exact rfl) : WX q g P ops Q n (⟨some d, .nilCheck x, ty, pos, af, none⟩ :: rest) L H := WX.nilE hx hs hk hd kk
theorem fE (hx : ev L x = some (eptr v k m off)) [hf : TF P t f off'] (kk : WX q g P ops Q n rest ((d, eptr v k m (off + off')) :: L) H) (hs : Rs xs v h := by assumption) (hk : xs[k]? = some y := by assumption) (hd : Nat.blt d n = true := by exact rfl) :
    WX q g P ops Q n (⟨some d, .fieldAddr t x f, ty, pos, af, none⟩ :: rest) L H := WX.fieldE hx hs hk hd kk
theorem lE [ht : TL P t 1 false] (hx : ev L x = some (eptr v k m off)) (hs : Rs xs v h) [hw : Swp h H K] (kk : WX q g P ops Q n rest ((d, u) :: L) H) (hk : xs[k]? = some y := by assumption) (hms : m = Enc.sz α := by exact rfl) (ho : (Enc.enc y)[off]? = some u := by exact rfl) (hd : Nat.blt d n = true := by exact rfl) :
    WX q g P ops Q n (⟨some d, .load t x, ty, pos, af, none⟩ :: rest) L H := WX.loadE hx hs hk hms ho hd kk
theorem lF {mm : Nat} {us : List Value} [ht : TL P t mm true] (hx : ev L x = some (eptr v k m off)) (hs : Rs xs v h) [hw : Swp h H K] (kk : WX q g P ops Q n rest ((d, .agg us.toArray) :: L) H) (hk : xs[k]? = some y := by assumption) (hms : m = Enc.sz α := by exact rfl)
    (ho : ((Enc.enc y).drop off).take mm = us := by first | exact whole rfl | (simp only [Enc.enc, Nat.zero_add, Nat.reduceAdd, List.drop_zero, List.drop_succ_cons, List.take_succ_cons, List.take_zero]; rfl)) (hl : us.length = mm := by exact rfl) (hd : Nat.blt d n = true := by exact rfl) :
    WX q g P ops Q n (⟨some d, .load t x, ty, pos, af, none⟩ :: rest) L H := WX.loadEA hx hs hk hms ho hl hd kk
theorem sl [ht : TU P t (.slice e)] [hl : TL P e m ag] (hx : ev L x = some v) (hi : ev L i = some (.int kd (k : Int))) (hs : Rs xs v h) (kk : WX q g P ops Q n rest ((d, slTo v k) :: L) H) (hk : k ≤ xs.length := by omega) (hd : Nat.blt d n = true := by exact rfl) :
    WX q g P ops Q n (⟨some d, .slice t x none (some i) none, ty, pos, af, none⟩ :: rest) L H := WX.slTo hx hi hs hk hd kk
theorem cv {xs : List UInt8} {t' : Nat} [h1 : TU P t (.slice e)] [h2 : TU P e (.int .u8)] [h3 : TU P t' .string] (hx : ev L x = some v) (hs : Rs xs v h) [hw : Swp h H K] (kk : WX q g P ops Q n rest ((d, .string (strOf xs)) :: L) H) (hd : Nat.blt d n = true := by exact rfl) :
    WX q g P ops Q n (⟨some d, .convert t t' x, ty, pos, af, none⟩ :: rest) L H := WX.strOf hx hs hd kk
end sls
end

-- a cut: what stands behind a piece, however it got there
section cuts
variable {g : World} {P : Program} {ops : Array Oper} {Q Q' : Exit → Act → World → Prop} {n : Nat} {os : List Oper} {L : Fm} {H : HH}
theorem upon_mono {o : Oper} {a : Act} {K K' : Act → World → Prop} (h : ∀ a w, K a w → K' a w) (hq : ∀ e a w, Q e a w → Q' e a w) {r : Result Next} (hh : o.upon P a K Q r) : o.upon P a K' Q' r := by
  have hl : LetsOut Q → LetsOut Q' := fun ⟨a, w, h⟩ => ⟨a, w, hq _ _ _ h⟩
  cases r with
  | ok n w' =>
    cases n <;> simp only [Oper.upon] at hh ⊢ <;>
      first
        | exact h _ _ hh
        | exact Calls.mono hh (fun e w'' he => by cases e <;> first | exact h _ _ he | exact hq _ _ _ he | exact hl he)
        | exact Rows.mono hh (fun _ _ he => h _ _ he)
  | halt x w' => cases x <;> simp only [Oper.upon] at hh ⊢ <;> first | exact hq _ _ _ hh | exact hh
theorem wpList_mono (hq : ∀ e a w, Q e a w → Q' e a w) : ∀ (os : List Oper) (a : Act) (w : World), wpList P ops Q os a w → wpList P ops Q' os a w
  | [], a, w, h => hq _ _ _ h
  | o :: rest, a, w, h => by
    simp only [wpList] at h ⊢
    split
    · rename_i hw
      rw [if_pos hw] at h
      rcases h with h | ⟨h1, a', w', h2⟩
      · exact .inl (upon_mono (fun a w => wpList_mono hq rest a w) hq h)
      · exact .inr ⟨h1, a', w', hq _ _ _ h2⟩
    · rename_i hw
      rw [if_neg hw] at h
      exact wpList_mono hq rest _ _ h
def At (g : World) (n : Nat) (L : Fm) (H : HH) : Act → World → Prop := fun a w => Fr n L a ∧ on g H.flatten w
theorem then_mono {N N' : Act → World → Prop} (h : ∀ a w, N a w → N' a w) : ∀ e a w, Exit.then N Q e a w → Exit.then N' Q e a w := by
  intro e a w hh
  cases e <;> first | exact h _ _ hh | exact hh
theorem WX.cut {y : Code} (L' : Fm) (H' : HH) (h1 : WX false g P ops (Exit.then (At g n L' H') Q) n os L H) (h2 : W g P y Q n L' H') : WX false g P ops (Exit.then (y.wp P Q) Q) n os L H :=
  .mk fun a w ha hw => wpList_mono (then_mono fun a w ⟨h3, h4⟩ => h2.run a w h3 h4) _ _ _ (h1.run a w ha hw)
theorem W.cut {x y : Code} (L' : Fm) (H' : HH) (h1 : W g P x (Exit.then (At g n L' H') Q) n L H) (h2 : W g P y Q n L' H') : W g P (.seq x y) Q n L H :=
  .mk fun a w ha hw => wp_seq (wp_mono (h1.run a w ha hw) (then_mono fun a w ⟨h3, h4⟩ => h2.run a w h3 h4))
theorem D.at {L' : Fm} {H' : HH} (f : Fsub L L') (s : Hsub H H') : D g (Exit.then (At g n L' H') Q) .normal n L H := .mk fun _ _ ha hw => ⟨ha.sub f, s.on hw⟩
end cuts
end Go.Sl

/-
  Maps whose keys are numbers: made, looked up, written, entries taken away, ranged over; function values.
-/
set_option linter.unusedVariables false
set_option linter.unusedSimpArgs false
namespace Go.Sl
open Go

/-- An entry. -/
structure Me where
  k : Int
  v : Value
  born : Nat
def Me.e (x : Me) : MapEntry := { key := .int .i64 x.k, val := x.v, born := x.born }
/-- A map's object. -/
def mob (l : List Me) (c : Nat) : Obj := .map (l.map Me.e).toArray c
/-- An iterator over it that has come by these entries. -/
def itob (b c : Nat) (vis : List Me) : Obj := .mapIter (some b) c (vis.map (·.born)).toArray c
structure MpOk (l : List Me) (c : Nat) : Prop where
  ks : (l.map (·.k)).Nodup
  bs : (l.map (·.born)).Nodup
  lt : ∀ x ∈ l, x.born < c
def mfind (l : List Me) (k : Int) : Option Me := l.find? fun x => decide (x.k = k)
/-- m[k]: the zero z where there is none. -/
def mval (l : List Me) (k : Int) (z : Value) : Value := match mfind l k with
  | some x => x.v
  | none => z
class TZV (P : Program) (t : Nat) (z : outParam Value) : Prop where
  h : ((P.info? t).bind (·.zero)) = some z
theorem TZV.run {P : Program} {t : Nat} {z : Value} (h : TZV P t z) {w : World} : (zeroValue t).run P w = .ok z w := by
  have := h.h
  cases hi : P.info? t with
  | none => simp [hi] at this
  | some i => simp only [hi, Option.bind_some] at this; simp [zeroValue, typeInfo, hi, this]

theorem MpOk.new : MpOk [] 0 := ⟨by simp, by simp, by simp⟩
theorem MpOk.put {l : List Me} {c : Nat} (h : MpOk l c) {k : Int} (hk : mfind l k = none) (v : Value) : MpOk (l ++ [⟨k, v, c⟩]) (c + 1) := by
  refine ⟨?_, ?_, fun x hx => ?_⟩
  · rw [List.map_append, List.nodup_append]
    refine ⟨h.ks, by simp, fun a ha b hb => ?_⟩
    simp at hb
    subst hb
    rintro rfl
    obtain ⟨x, hx, hxk⟩ := List.mem_map.1 ha
    have := List.find?_eq_none.1 hk x hx
    simp [hxk] at this
  · rw [List.map_append, List.nodup_append]
    refine ⟨h.bs, by simp, fun a ha b hb => ?_⟩
    simp at hb
    subst hb
    obtain ⟨x, hx, hxb⟩ := List.mem_map.1 ha
    have := h.lt x hx
    omega
  · rcases List.mem_append.1 hx with hx | hx
    · have := h.lt x hx; omega
    · rw [List.mem_singleton] at hx; subst hx; simp
theorem MpOk.del {l : List Me} {c : Nat} (h : MpOk l c) (p : Me → Bool) : MpOk (l.filter p) c :=
  ⟨h.ks.sublist (List.filter_sublist.map _), h.bs.sublist (List.filter_sublist.map _), fun x hx => h.lt x (List.mem_filter.1 hx).1⟩

def fnd (k : Int) : List Me → Nat → Option (Nat × Value)
  | [], _ => none
  | x :: r, i => if k = x.k then some (i, x.v) else fnd k r (i + 1)
theorem findNow_fnd {kd : IntKind} {k : Int} : ∀ (l : List Me) (i : Nat), Instr.findNow (.int kd) (.int .i64 k) (l.map Me.e) i = some (fnd k l i)
  | [], i => rfl
  | x :: r, i => by
    simp only [List.map_cons, Instr.findNow, Me.e, Instr.sameNow, if_true, fnd]
    by_cases h : k = x.k
    · simp [h]
    · have : (k == x.k) = false := by simpa using h
      simp only [this, if_neg h]
      exact findNow_fnd r (i + 1)
theorem fnd_val {k : Int} : ∀ (l : List Me) (i : Nat), (fnd k l i).map Prod.snd = (mfind l k).map (·.v)
  | [], i => rfl
  | x :: r, i => by
    simp only [fnd, mfind, List.find?_cons]
    by_cases h : k = x.k
    · simp [h]
    · have h2 : ¬ x.k = k := fun e => h e.symm
      simp only [if_neg h, decide_eq_false h2]
      exact fnd_val r (i + 1)
theorem fnd_none {k : Int} {l : List Me} (h : mfind l k = none) (i : Nat) : fnd k l i = none := by
  have := fnd_val (k := k) l i
  rw [h] at this
  cases hf : fnd k l i with
  | none => rfl
  | some x => rw [hf] at this; cases this
theorem fnd_erase {k : Int} : ∀ (l : List Me) (i j : Nat) (v : Value), (l.map (·.k)).Nodup → fnd k l i = some (j, v) → i ≤ j ∧ j - i < l.length ∧ l.eraseIdx (j - i) = l.filter fun x => decide (x.k ≠ k)
  | [], i, j, v, _, h => by cases h
  | x :: r, i, j, v, hn, h => by
    simp only [fnd] at h
    rw [List.map_cons, List.nodup_cons] at hn
    by_cases hk : k = x.k
    · rw [if_pos hk] at h
      cases h
      refine ⟨Nat.le_refl _, by simp, ?_⟩
      rw [Nat.sub_self, List.eraseIdx_zero, List.tail_cons, List.filter_cons]
      rw [if_neg (by simp [hk])]
      symm
      rw [List.filter_eq_self]
      intro y hy
      have : ¬ y.k = x.k := fun e => hn.1 (List.mem_map.2 ⟨y, hy, e⟩)
      simpa [hk] using this
    · rw [if_neg hk] at h
      obtain ⟨h1, h2, h3⟩ := fnd_erase r (i + 1) j v hn.2 h
      refine ⟨by omega, by simp; omega, ?_⟩
      rw [show j - i = (j - (i + 1)) + 1 by omega, List.eraseIdx_cons_succ, h3, List.filter_cons, if_pos (by simpa using fun e => hk e.symm)]

theorem born_inj {l : List Me} (hn : (l.map (·.born)).Nodup) {a b : Me} (ha : a ∈ l) (hb : b ∈ l) (hab : a.born = b.born) : a = b := by
  induction l with
  | nil => cases ha
  | cons y r ih =>
    rw [List.map_cons, List.nodup_cons] at hn
    rcases List.mem_cons.1 ha with e1 | ha' <;> rcases List.mem_cons.1 hb with e2 | hb'
    · rw [e1, e2]
    · exact absurd (List.mem_map.2 ⟨b, hb', by rw [← hab, e1]⟩) hn.1
    · exact absurd (List.mem_map.2 ⟨a, ha', by rw [hab, e2]⟩) hn.1
    · exact ih hn.2 ha' hb'
section
variable {g : World} {P : Program} {ops : Array Oper} {Q : Exit → Act → World → Prop} {n : Nat} {rest : List Oper} {L : Fm} {H : HH} {q : Bool}
variable {d : Nat} {ty : TypeId} {pos : String} {af : Array Edge} {v : Value}
variable {x i y : Operand} {t kt et b c : Nat} {k : Int} {l : List Me} {K : Obj → HH}

def notCells : Obj → Bool
  | .cells .. => false
  | _ => true
theorem run_getObj_of {w : World} {b : Nat} {o : Obj} (h : w.heap[b]? = some o) (hn : notCells o = true) : (getObj b).run P w = .ok o w := by
  simp only [getObj, Sem.run]
  rw [h]
  cases o <;> first | rfl | cases hn
theorem run_setObj_of {w : World} {b : Nat} {o o' : Obj} (h : w.heap[b]? = some o) (hn : notCells o = true) : (setObj b o').run P w = .ok () { w with heap := w.heap.setIfInBounds b o' } := by
  show (match w.heap[b]? with
    | some (.cells ..) => Result.halt (.stuck "setObj: a row of cells") w
    | some _ => (Sem.pure ()).run P { w with heap := w.heap.setIfInBounds b o' }
    | none => .halt (.stuck "setObj: no such block") w) = _
  rw [h]
  cases o <;> first | rfl | cases hn
theorem run_findKey {w : World} [hk : TU P kt (.int .i64)] : (Instr.findKey kt (.int .i64 k) (l.map Me.e)).run P w = .ok (fnd k l 0) w := by
  unfold Instr.findKey
  rw [Sem.run_bind, hk.run]
  simp only [Result.andThen_ok, findNow_fnd]
  rfl
theorem run_checkKey {w : World} {e : Bool} [hk : TU P kt (.int .i64)] : (Instr.checkKey e 10000 kt (.int .i64 k)).run P w = .ok () w := by
  unfold Instr.checkKey
  simp [hk.run]
theorem run_getMap {w : World} (hh : w.heap[b]? = some (mob l c)) : (getObj b).run P w = .ok (.map (l.map Me.e).toArray c) w := by
  exact run_getObj_of hh rfl

theorem WX.makeMap (hd : Nat.blt d n = true) (kk : ∀ b, WX false g P ops Q n rest ((d, .map (some b)) :: L) ([(b, mob [] 0)] :: H)) : WX false g P ops Q n (⟨some d, .makeMap t none, ty, pos, af, none⟩ :: rest) L H :=
  WX.eff hd (fun a w ha hw => ⟨.map (some w.heap.size), w.alloc (mob [] 0), _, by simp [execOp, Instr.makeMap, mob], by simpa using hw.alloc (mob [] 0), kk w.heap.size⟩)

theorem WX.lookup {z : Value} (hx : ev L x = some (.map (some b))) (hi : ev L i = some (.int .i64 k)) [ht : TU P t (.map kt et)] [hk : TU P kt (.int .i64)] [hz : TZV P et z] [hf : Foc b (mob l c) H K] (hd : Nat.blt d n = true)
    (kk : WX q g P ops Q n rest ((d, mval l k z) :: L) H) : WX q g P ops Q n (⟨some d, .lookup t x i false, ty, pos, af, none⟩ :: rest) L H :=
  WX.val (fun a ha w hw => by
    have h1 := run_getMap (P := P) (hf.heap hw)
    have h2 : ((l.map Me.e).toArray.toList) = l.map Me.e := rfl
    have h3 := fnd_val (k := k) l 0
    simp only [execOp, ha.ev hx, ha.ev hi, Instr.lookup, Sem.run_bind, ht.run, h1, Result.andThen_ok, run_checkKey, h2, run_findKey, Sem.run_pure]
    unfold mval
    cases hf : fnd k l 0 with
    | none =>
      rw [hf] at h3
      cases hm : mfind l k with
      | none => simp [hz.run]
      | some x => rw [hm] at h3; cases h3
    | some jv =>
      rw [hf] at h3
      cases hm : mfind l k with
      | none => rw [hm] at h3; cases h3
      | some x =>
        rw [hm] at h3
        simp only [Option.map_some, Option.some.injEq] at h3
        simp [h3]) hd kk
theorem WX.lookupOk {z : Value} (hx : ev L x = some (.map (some b))) (hi : ev L i = some (.int .i64 k)) [ht : TU P t (.map kt et)] [hk : TU P kt (.int .i64)] [hz : TZV P et z] [hf : Foc b (mob l c) H K] (hd : Nat.blt d n = true)
    (kk : WX q g P ops Q n rest ((d, .tuple #[mval l k z, .bool (mfind l k).isSome]) :: L) H) : WX q g P ops Q n (⟨some d, .lookup t x i true, ty, pos, af, none⟩ :: rest) L H :=
  WX.val (fun a ha w hw => by
    have h1 := run_getMap (P := P) (hf.heap hw)
    have h2 : ((l.map Me.e).toArray.toList) = l.map Me.e := rfl
    have h3 := fnd_val (k := k) l 0
    simp only [execOp, ha.ev hx, ha.ev hi, Instr.lookup, Sem.run_bind, ht.run, h1, Result.andThen_ok, run_checkKey, h2, run_findKey, Sem.run_pure]
    unfold mval
    cases hf : fnd k l 0 with
    | none =>
      rw [hf] at h3
      cases hm : mfind l k with
      | none => simp [hz.run]
      | some x => rw [hm] at h3; cases h3
    | some jv =>
      rw [hf] at h3
      cases hm : mfind l k with
      | none => rw [hm] at h3; cases h3
      | some x =>
        rw [hm] at h3
        simp only [Option.map_some, Option.some.injEq] at h3
        simp [h3]) hd kk
theorem WX.lenMap (hx : ev L x = some (.map (some b))) [ht : TU P t (.map kt et)] [hf : Foc b (mob l c) H K] (hd : Nat.blt d n = true) (kk : WX q g P ops Q n rest ((d, .int .i64 l.length) :: L) H) :
    WX q g P ops Q n (⟨some d, .call ⟨.builtin .len, #[x], #[t]⟩, ty, pos, af, none⟩ :: rest) L H :=
  WX.val (fun a ha w hw => run_bi (args := [x]) (vs := [.map (some b)]) (by simp [ha.ev hx]) (by
    have h1 := run_getMap (P := P) (hf.heap hw)
    simp [builtin, Builtin.len_, ht.run, h1, goInt])) hd kk
theorem map_set {w : World} {o o' : Obj} (hf : Foc b o H K) (hno : notCells o = true) (hw : on g H.flatten w) : ∃ w', (setObj b o').run P w = .ok () w' ∧ on g (K o').flatten w' := by
  refine ⟨{ w with heap := w.heap.setIfInBounds b o' }, run_setObj_of (hf.heap hw) hno, ?_⟩
  have hlt : b < w.heap.size := hw.lt hf.mem
  exact hf.set hw ⟨rfl, rfl, rfl, by simp⟩ (by simp [hlt]) (fun k hk => by rw [Array.getElem?_setIfInBounds_ne (fun e => hk e.symm)])
/-- A new entry. -/
theorem WX.mapPut (hx : ev L x = some (.map (some b))) (hi : ev L i = some (.int .i64 k)) (hy : ev L y = some v) [ht : TU P t (.map kt et)] [hk : TU P kt (.int .i64)] [hf : Foc b (mob l c) H K] (hn : mfind l k = none)
    (kk : WX false g P ops Q n rest L (K (mob (l ++ [⟨k, v, c⟩]) (c + 1)))) : WX false g P ops Q n (⟨none, .mapUpdate t x i y, ty, pos, af, none⟩ :: rest) L H :=
  WX.effS (fun a w ha hw => by
    have h1 := run_getMap (P := P) (hf.heap hw)
    have h2 : ((l.map Me.e).toArray.toList) = l.map Me.e := rfl
    obtain ⟨w', e1, e2⟩ := map_set (P := P) (o' := mob (l ++ [⟨k, v, c⟩]) (c + 1)) hf rfl hw
    refine ⟨w', _, ?_, e2, kk⟩
    have e3 : (Obj.map ((l.map Me.e).toArray.push { key := .int .i64 k, val := v, born := c }) (c + 1)) = mob (l ++ [⟨k, v, c⟩]) (c + 1) := by simp [mob, Me.e]
    simp only [execOp, ha.ev hx, ha.ev hi, ha.ev hy, Instr.mapUpdate, Sem.run_bind, ht.run, h1, Result.andThen_ok, run_checkKey, h2, run_findKey, fnd_none hn, e3, e1, Sem.run_pure])
theorem WX.mapDel (hx : ev L x = some (.map (some b))) (hi : ev L i = some (.int .i64 k)) [ht : TU P t (.map kt et)] [hk : TU P kt (.int .i64)] [hf : Foc b (mob l c) H K] (hn : (l.map (·.k)).Nodup)
    (kk : WX false g P ops Q n rest L (K (mob (l.filter fun x => decide (x.k ≠ k)) c))) : WX false g P ops Q n (⟨none, .call ⟨.builtin .delete, #[x, i], #[t, kt]⟩, ty, pos, af, none⟩ :: rest) L H :=
  WX.effN (fun a w ha hw => by
    have h1 := run_getMap (P := P) (hf.heap hw)
    have h2 : ((l.map Me.e).toArray.toList) = l.map Me.e := rfl
    obtain ⟨w', e1, e2⟩ := map_set (P := P) (o' := mob (l.filter fun x => decide (x.k ≠ k)) c) hf rfl hw
    refine ⟨.tuple #[], w', _, run_bi (args := [x, i]) (vs := [.map (some b), .int .i64 k]) (by simp [ha.ev hx, ha.ev hi]) ?_, e2, kk⟩
    have hc : (Instr.checkKey ((l.map Me.e).toArray.isEmpty) 10000 kt (.int .i64 k)).run P w = .ok () w := run_checkKey
    cases hf2 : fnd k l 0 with
    | none =>
      have hno : l.filter (fun x => decide (x.k ≠ k)) = l := by
        rw [List.filter_eq_self]
        intro y hy
        have h3 := fnd_val (k := k) l 0
        rw [hf2] at h3
        cases hm : mfind l k with
        | some x => rw [hm] at h3; cases h3
        | none => have := List.find?_eq_none.1 hm y hy; simpa using this
      rw [hno] at e1
      have e1' : (setObj b (.map (l.map Me.e).toArray c)).run P w = .ok () w' := e1
      have hd2 : (Builtin.delete_ #[t, kt] ty #[.map (some b), .int .i64 k]).run P w = .ok (.tuple #[]) w' := by
        unfold Builtin.delete_
        simp only [List.getElem?_toArray, List.getElem?_cons_zero, List.getElem?_cons_succ, Sem.run_bind, ht.run, Result.andThen_ok, h1, hc, h2, run_findKey, hf2, e1', Sem.run_pure]
      simp only [builtin, Sem.run_bind, hd2, Result.andThen_ok, Sem.run_pure]
    | some jv =>
      obtain ⟨j, v⟩ := jv
      obtain ⟨h4, h5, h6⟩ := fnd_erase l 0 j v hn hf2
      rw [Nat.sub_zero] at h5 h6
      have e4 : (Obj.map ((l.map Me.e).toArray.eraseIdxIfInBounds j) c) = mob (l.filter fun x => decide (x.k ≠ k)) c := by
        rw [← h6]
        unfold mob
        congr 1
        rw [Array.eraseIdxIfInBounds, dif_pos (by simpa using h5)]
        apply Array.toList_inj.1
        simp [List.eraseIdx_eq_take_drop_succ, List.map_take, List.map_drop]
      have e1' : (setObj b (.map ((l.map Me.e).toArray.eraseIdxIfInBounds j) c)).run P w = .ok () w' := by rw [e4]; exact e1
      have hd2 : (Builtin.delete_ #[t, kt] ty #[.map (some b), .int .i64 k]).run P w = .ok (.tuple #[]) w' := by
        unfold Builtin.delete_
        simp only [List.getElem?_toArray, List.getElem?_cons_zero, List.getElem?_cons_succ, Sem.run_bind, ht.run, Result.andThen_ok, h1, hc, h2, run_findKey, hf2, e1', Sem.run_pure]
      simp only [builtin, Sem.run_bind, hd2, Result.andThen_ok, Sem.run_pure])

-- a range
theorem WX.range (hx : ev L x = some (.map (some b))) [ht : TU P t (.map kt et)] [hf : Foc b (mob l c) H K] (hd : Nat.blt d n = true) (kk : ∀ r, WX false g P ops Q n rest ((d, .pointer (some ⟨r, 0, none⟩)) :: L) ([(r, itob b c [])] :: H)) :
    WX false g P ops Q n (⟨some d, .range t x, ty, pos, af, none⟩ :: rest) L H :=
  WX.eff hd (fun a w ha hw => by
    have h1 := run_getMap (P := P) (hf.heap hw)
    exact ⟨.pointer (some ⟨w.heap.size, 0, none⟩), w.alloc (itob b c []), _, by simp [execOp, ha.ev hx, Instr.range, ht.run, h1, itob], by simpa using hw.alloc (itob b c []), kk w.heap.size⟩)
theorem run_choose_next {m : Nat} (hm : 0 < m) (w : World) : ∃ i w', (choose (.mapNext m)).run P w = .ok i w' ∧ i < m ∧ w'.heap = w.heap ∧ Amb w w' := by
  by_cases h1 : m ≤ 1
  · refine ⟨0, w, ?_, hm, rfl, Amb.refl w⟩
    simp [Question.forced, h1]
  · refine ⟨(Question.mapNext m).cut (w.tape w.drawn (.mapNext m)), w.drew, ?_, ?_, rfl, ⟨rfl, rfl, rfl, Nat.le_refl _⟩⟩
    · simp [Question.forced, h1]
    · exact Nat.mod_lt _ hm
/-- The next entry, whichever: none is left, or one that has not come by. -/
theorem WX.next {r : Nat} {vis : List Me} {K2 : Obj → HH} (hx : ev L x = some (.pointer (some ⟨r, 0, none⟩))) [hr : Foc r (itob b c vis) H K2] [hf : Foc b (mob l c) H K] (ok : MpOk l c) (hv : ∀ z ∈ vis, z ∈ l) (hd : Nat.blt d n = true)
    (k1 : (∀ z ∈ l, z ∈ vis) → WX false g P ops Q n rest ((d, .tuple #[.bool false]) :: L) H)
    (k2 : ∀ z ∈ l, z ∉ vis → WX false g P ops Q n rest ((d, .tuple #[.bool true, .int .i64 z.k, z.v]) :: L) (K2 (itob b c (vis ++ [z])))) :
    WX false g P ops Q n (⟨some d, .next x false, ty, pos, af, none⟩ :: rest) L H :=
  WX.eff hd (fun a w ha hw => by
    have hb := hf.heap hw
    have hr' := hr.heap hw
    have h1 := run_getMap (P := P) hb
    have h2 : (getObj r).run P w = .ok (itob b c vis) w := run_getObj_of hr' rfl
    have hborn : ∀ z ∈ l, ((vis.map (·.born)).toArray.contains z.born = true ↔ z ∈ vis) := by
      intro z hz
      simp only [List.contains_toArray, List.contains_eq_mem, decide_eq_true_eq, List.mem_map]
      exact ⟨fun ⟨u, hu, he⟩ => born_inj ok.bs (hv u hu) hz he ▸ hu, fun hz => ⟨z, hz, rfl⟩⟩
    have hguard : (!(vis.map (·.born)).toArray.isEmpty && !(l.map Me.e).toArray.isEmpty && (l.map Me.e).toArray.all (fun e => decide (e.born ≥ c))) = false := by
      cases l with
      | nil => simp
      | cons y r =>
        have := ok.lt y List.mem_cons_self
        have : decide (y.born ≥ c) = false := decide_eq_false (by omega)
        simp [Me.e, this]
    obtain ⟨un, hun⟩ : ∃ un, un = l.filter fun z => !(vis.map (·.born)).toArray.contains z.born := ⟨_, rfl⟩
    have hmem : ∀ z, z ∈ un ↔ z ∈ l ∧ z ∉ vis := by
      intro z
      rw [hun, List.mem_filter]
      constructor
      · rintro ⟨h3, h4⟩
        exact ⟨h3, fun h5 => by rw [(hborn z h3).2 h5] at h4; cases h4⟩
      · rintro ⟨h3, h4⟩
        refine ⟨h3, ?_⟩
        cases hc : (vis.map (·.born)).toArray.contains z.born with
        | false => rfl
        | true => exact absurd ((hborn z h3).1 hc) h4
    have hleft : ((l.map Me.e).toArray.filter fun e => !(vis.map (·.born)).toArray.contains e.born) = (un.map Me.e).toArray := by
      apply Array.toList_inj.1
      rw [Array.toList_filter, List.filter_map, hun]
      rfl
    have hold : ((un.map Me.e).toArray.filter fun e => decide (e.born < c)) = (un.map Me.e).toArray := by
      apply Array.toList_inj.1
      rw [Array.toList_filter, List.filter_eq_self]
      intro e he
      obtain ⟨z, hz, rfl⟩ := List.mem_map.1 he
      exact decide_eq_true (ok.lt z ((hmem z).1 hz).1)
    have hnew : ((un.map Me.e).toArray.filter fun e => decide (e.born ≥ c)) = #[] := by
      apply Array.toList_inj.1
      rw [Array.toList_filter, List.filter_eq_nil_iff]
      intro e he
      obtain ⟨z, hz, rfl⟩ := List.mem_map.1 he
      have := ok.lt z ((hmem z).1 hz).1
      simp [Me.e]; omega
    have hsize : 0 < ((if (un.map Me.e).toArray.isEmpty = true then #[none] else #[]) ++ ((un.map Me.e).toArray ++ #[]).map some).size := by
      cases un <;> simp
    obtain ⟨i, w1, c1, c2, c3, c4⟩ := run_choose_next (P := P) hsize w
    have key : (Instr.next (.pointer (some ⟨r, 0, none⟩)) false ty).run P w = (match ((if (un.map Me.e).toArray.isEmpty = true then #[none] else #[]) ++ ((un.map Me.e).toArray ++ #[]).map some)[i]? with
        | some (some e) => (do setObj r (.mapIter (some b) c ((vis.map Me.born).toArray.push e.born) c); pure (.tuple #[.bool true, e.key, e.val]) : Sem Value)
        | some none => pure (.tuple #[.bool false])
        | none => stuck "Next: no such candidate").run P w1 := by
      unfold Instr.next
      simp only [Sem.run_bind, h2, Result.andThen_ok, itob, h1]
      rw [hguard]
      simp only [Bool.false_eq_true, if_false, hleft, hold, hnew, Sem.run_bind, c1, Result.andThen_ok]
      rfl
    cases un with
    | nil =>
      have hi : i = 0 := by simp at c2; exact c2
      subst hi
      refine ⟨.tuple #[.bool false], w1, H, ?_, hw.heap c3 c4, k1 fun z hz => Classical.byContradiction fun h => by have := (hmem z).2 ⟨hz, h⟩; cases this⟩
      simp only [execOp, ha.ev hx, Sem.run_bind]
      rw [key]
      simp
    | cons y rr =>
      have hi : i < (y :: rr).length := by simpa using c2
      obtain ⟨z, hz⟩ : ∃ z, (y :: rr)[i]? = some z := ⟨_, List.getElem?_eq_getElem hi⟩
      obtain ⟨hz1, hz2⟩ := (hmem z).1 (List.mem_of_getElem? hz)
      have hw1 : on g H.flatten w1 := hw.heap c3 c4
      obtain ⟨w2, e1, e2⟩ := map_set (P := P) (o' := itob b c (vis ++ [z])) hr rfl hw1
      refine ⟨.tuple #[.bool true, .int .i64 z.k, z.v], w2, _, ?_, e2, k2 z hz1 hz2⟩
      simp only [execOp, ha.ev hx, Sem.run_bind]
      rw [key]
      have hget : ((if ((y :: rr).map Me.e).toArray.isEmpty = true then #[none] else #[]) ++ (((y :: rr).map Me.e).toArray ++ #[]).map some)[i]? = some (some z.e) := by
        rw [if_neg (by simp)]
        simp only [List.append_nil, Array.empty_append, Array.append_empty, Array.getElem?_map, List.getElem?_toArray, List.getElem?_map, hz, Option.map_some]
      rw [hget]
      have e3 : Obj.mapIter (some b) c ((vis.map (·.born)).toArray.push z.e.born) c = itob b c (vis ++ [z]) := by simp [itob, Me.e]
      simp only [e3, Sem.run_bind, e1, Result.andThen_ok, Sem.run_pure]
      rfl)
/-- The entry that the range stands at. -/
theorem WX.entry {r : Nat} {vis : List Me} {z : Me} {K2 : Obj → HH} (hx : ev L x = some (.pointer (some ⟨r, 0, none⟩))) [hr : Foc r (itob b c (vis ++ [z])) H K2] [hf : Foc b (mob l c) H K] (ok : MpOk l c) (hz : z ∈ l) (hd : Nat.blt d n = true)
    (kk : WX q g P ops Q n rest ((d, .tuple #[.int .i64 z.k, z.v]) :: L) H) : WX q g P ops Q n (⟨some d, .entry x, ty, pos, af, none⟩ :: rest) L H :=
  WX.val (fun a ha w hw => by
    have h1 := run_getMap (P := P) (hf.heap hw)
    have h2 : (getObj r).run P w = .ok (itob b c (vis ++ [z])) w := run_getObj_of (hr.heap hw) rfl
    have h3 : (((vis ++ [z]).map (·.born)).toArray).back? = some z.born := by simp
    have h4 : (l.map Me.e).toArray.find? (fun e => e.born == z.born) = some z.e := by
      rw [List.find?_toArray, List.find?_map]
      have : l.find? ((fun e => e.born == z.born) ∘ Me.e) = some z := by
        have hmem : ∃ u, l.find? ((fun e => e.born == z.born) ∘ Me.e) = some u := by
          cases hf : l.find? ((fun e => e.born == z.born) ∘ Me.e) with
          | some u => exact ⟨u, rfl⟩
          | none =>
            have := List.find?_eq_none.1 hf z hz
            simp [Me.e] at this
        obtain ⟨u, hu⟩ := hmem
        have h5 := List.find?_some hu
        simp only [Function.comp, Me.e, beq_iff_eq] at h5
        rw [hu, born_inj ok.bs (List.mem_of_find?_eq_some hu) hz h5]
      rw [this]; rfl
    simp only [execOp, ha.ev hx, Instr.entry, Sem.run_bind, h2, itob, Result.andThen_ok, h3, h1]
    simp only [bne_self_eq_false, Bool.false_eq_true, if_false]
    rw [h4]
    simp [Me.e]) hd kk

-- function values
theorem WX.makeFunc {fn : Fn} {first captured : List Operand} {fs cs : List Value} (h1 : evs L first = some fs) (h2 : evs L captured = some cs) (hd : Nat.blt d n = true) (kk : WX q g P ops Q n rest ((d, .func fn fs.toArray cs.toArray) :: L) H) :
    WX q g P ops Q n (⟨some d, .makeFunc fn first.toArray captured.toArray, ty, pos, af, none⟩ :: rest) L H :=
  WX.val (fun a ha w hw => by
    have e1 : first.toArray.map a.eval = fs.toArray := by rw [← ha.evs h1]; simp
    have e2 : captured.toArray.map a.eval = cs.toArray := by rw [← ha.evs h2]; simp
    simp only [execOp, e1, e2, Instr.makeFunc, Sem.run_bind, Sem.run_pure, Result.andThen_ok]) hd kk
theorem exec_callV {f : FuncId} {args : List Operand} {ts : Array TypeId} {a : Act} {vs fs cs : List Value} {u : Operand} {w : World} {dst : Option Nat} (hn : Enters P f) (hu : a.eval u = .func (.func f) fs.toArray cs.toArray) (hx : args.map a.eval = vs) :
    (execOp a.eval ⟨dst, .call ⟨.value u, args.toArray, ts⟩, ty, pos, af, none⟩).run P w = .ok (.enter f (fs ++ vs ++ cs).toArray) w := by
  have e : args.toArray.map a.eval = vs.toArray := by rw [← hx]; simp
  simp only [execOp, resolve, e, hu]
  simp [Deferred.ofValue, invoke, callFunc_run hn]
/-- A call of a function value. -/
theorem WX.callV {f : FuncId} {args : List Operand} {ts : Array TypeId} {vs fs cs : List Value} {u : Operand} {pre Hr : HH} {post : Value → HH → Prop} (hu : ev L u = some (.func (.func f) fs.toArray cs.toArray)) (hx : evs L args = some vs) [hn : Enters P f] (hc : Ct P f (fs ++ vs ++ cs) pre post) [pk : Picks pre H Hr]
    (hd : Nat.blt d n = true) (k : ∀ v H', post v H' → WX false g P ops Q n rest ((d, v) :: L) (H' ++ Hr)) : WX false g P ops Q n (⟨some d, .call ⟨.value u, args.toArray, ts⟩, ty, pos, af, none⟩ :: rest) L H := by
  refine .mk fun a w ha hw => ?_
  have hd' : d < n := Nat.le_of_ble_eq_true hd
  refine wpList_plain rfl fun K hK => ?_
  unfold Oper.wp
  rw [exec_callV hn (ha.ev hu) (ha.evs hx)]
  refine (hc.calls g Hr.flatten w (hw.perm (by simpa using pk.p))).mono fun e w' ⟨v, H', he, hp, ho⟩ => ?_
  subst he
  exact hK _ _ (k v H' hp _ _ (ha.put hd' v) (by simpa using ho))
end
end Go.Sl

/-
  The zero values of this seat's types of one cell, written by wip/tys.py.
-/
set_option maxRecDepth 100000
namespace Go.Proofs
open Go.Sl
instance Tryz.tv2 : TZV Tryz.prog 2 (.int .i64 (0)) := ⟨by kernel_rfl⟩
instance Tryz.tv3 : TZV Tryz.prog 3 (.int .i64 (0)) := ⟨by kernel_rfl⟩
instance Tryz.tv4 : TZV Tryz.prog 4 (.bool false) := ⟨by kernel_rfl⟩
instance Tryz.tv5 : TZV Tryz.prog 5 (.int .u8 (0)) := ⟨by kernel_rfl⟩
instance Tryz.tv6 : TZV Tryz.prog 6 (.int .u8 (0)) := ⟨by kernel_rfl⟩
instance Tryz.tv9 : TZV Tryz.prog 9 (.string ByteArray.empty) := ⟨by kernel_rfl⟩
instance Tryz.tv10 : TZV Tryz.prog 10 (.string ByteArray.empty) := ⟨by kernel_rfl⟩
instance Tryz.tv11 : TZV Tryz.prog 11 (.string ByteArray.empty) := ⟨by kernel_rfl⟩
instance Tryz.tv12 : TZV Tryz.prog 12 (.int .u64 (0)) := ⟨by kernel_rfl⟩
instance Tryz.tv15 : TZV Tryz.prog 15 (.pointer none) := ⟨by kernel_rfl⟩
instance Tryz.tv16 : TZV Tryz.prog 16 (.pointer none) := ⟨by kernel_rfl⟩
instance Tryz.tv17 : TZV Tryz.prog 17 (.pointer none) := ⟨by kernel_rfl⟩
instance Tryz.tv21 : TZV Tryz.prog 21 (.int .i32 (0)) := ⟨by kernel_rfl⟩
instance Tryz.tv22 : TZV Tryz.prog 22 (.slice none 0 0) := ⟨by kernel_rfl⟩
instance Tryz.tv26 : TZV Tryz.prog 26 (.pointer none) := ⟨by kernel_rfl⟩
instance Tryz.tv28 : TZV Tryz.prog 28 (.pointer none) := ⟨by kernel_rfl⟩
instance Tryz.tv30 : TZV Tryz.prog 30 (.pointer none) := ⟨by kernel_rfl⟩
instance Tryz.tv31 : TZV Tryz.prog 31 (.slice none 0 0) := ⟨by kernel_rfl⟩
instance Tryz.tv34 : TZV Tryz.prog 34 (.int .i64 (0)) := ⟨by kernel_rfl⟩
instance Tryz.tv57 : TZV Tryz.prog 57 (.pointer none) := ⟨by kernel_rfl⟩
instance Tryz.tv66 : TZV Tryz.prog 66 (.map none) := ⟨by kernel_rfl⟩
instance Tryz.tv67 : TZV Tryz.prog 67 (.slice none 0 0) := ⟨by kernel_rfl⟩
instance Tryz.tv70 : TZV Tryz.prog 70 (.slice none 0 0) := ⟨by kernel_rfl⟩
instance Tryz.tv75 : TZV Tryz.prog 75 (.slice none 0 0) := ⟨by kernel_rfl⟩
instance Tryz.tv77 : TZV Tryz.prog 77 (.slice none 0 0) := ⟨by kernel_rfl⟩
instance Tryz.tv90 : TZV Tryz.prog 90 (.pointer none) := ⟨by kernel_rfl⟩
instance Tryz.tv97 : TZV Tryz.prog 97 (.pointer none) := ⟨by kernel_rfl⟩
instance Tryz.tv102 : TZV Tryz.prog 102 (.pointer none) := ⟨by kernel_rfl⟩
instance Tryz.tv106 : TZV Tryz.prog 106 (.pointer none) := ⟨by kernel_rfl⟩
instance Tryz.tv108 : TZV Tryz.prog 108 (.pointer none) := ⟨by kernel_rfl⟩
instance Tryz.tv115 : TZV Tryz.prog 115 (.pointer none) := ⟨by kernel_rfl⟩
instance Tryz.tv120 : TZV Tryz.prog 120 (.pointer none) := ⟨by kernel_rfl⟩
instance Tryz.tv126 : TZV Tryz.prog 126 (.slice none 0 0) := ⟨by kernel_rfl⟩
instance Tryz.tv129 : TZV Tryz.prog 129 (.int .u64 (0)) := ⟨by kernel_rfl⟩
instance Tryz.tv130 : TZV Tryz.prog 130 (.int .u32 (0)) := ⟨by kernel_rfl⟩
instance Tryz.tv133 : TZV Tryz.prog 133 (.pointer none) := ⟨by kernel_rfl⟩
instance Tryz.tv135 : TZV Tryz.prog 135 (.pointer none) := ⟨by kernel_rfl⟩
instance Tryz.tv137 : TZV Tryz.prog 137 (.pointer none) := ⟨by kernel_rfl⟩
instance Tryz.tv141 : TZV Tryz.prog 141 (.int .u64 (0)) := ⟨by kernel_rfl⟩
instance Tryz.tv151 : TZV Tryz.prog 151 (.int .i64 (0)) := ⟨by kernel_rfl⟩
instance Tryz.tv160 : TZV Tryz.prog 160 (.slice none 0 0) := ⟨by kernel_rfl⟩
instance Tryz.tv163 : TZV Tryz.prog 163 (.pointer none) := ⟨by kernel_rfl⟩
instance Tryz.tv165 : TZV Tryz.prog 165 (.pointer none) := ⟨by kernel_rfl⟩
instance Tryz.tv167 : TZV Tryz.prog 167 (.pointer none) := ⟨by kernel_rfl⟩
instance Tryz.tv169 : TZV Tryz.prog 169 (.pointer none) := ⟨by kernel_rfl⟩
instance Tryz.tv172 : TZV Tryz.prog 172 (.int .u64 (0)) := ⟨by kernel_rfl⟩
instance Tryz.tv178 : TZV Tryz.prog 178 (.slice none 0 0) := ⟨by kernel_rfl⟩
instance Tryz.tv179 : TZV Tryz.prog 179 (.pointer none) := ⟨by kernel_rfl⟩
instance Tryz.tv188 : TZV Tryz.prog 188 (.int .u8 (0)) := ⟨by kernel_rfl⟩
instance Tryz.tv189 : TZV Tryz.prog 189 (.int .u8 (0)) := ⟨by kernel_rfl⟩
instance Tryz.tv191 : TZV Tryz.prog 191 (.pointer none) := ⟨by kernel_rfl⟩
instance Tryz.tv192 : TZV Tryz.prog 192 (.int .i32 (0)) := ⟨by kernel_rfl⟩
instance Tryz.tv193 : TZV Tryz.prog 193 (.int .i32 (0)) := ⟨by kernel_rfl⟩
end Go.Proofs

/-
  DERIVED: THE SHELF's CONTRACTS AT THIS DUMP, IN PLAIN WORDS (tools/lay-plain.mjs out of 'TryzShelf.lean', which tools/lay-shelf.mjs wrote): THE SAME DECLARATIONS UNDER THE SAME NAMES: 'import', 'namespace', 'open', 'def', 'theorem' AND NOTHING ELSE: no command of the shelf's: FOR A HAND-IN. Each laying: the table of numbers ('.._ren') and one theorem, a field a fact of the dump's own or the kernel's comparison; each contract: ONE APPLICATION.
-/
namespace Go.Proofs
open Go.Shelf
def Tryz.lays128_ren : Go.Shelf.Ren := ⟨fun | 128 => 94 | n => n, fun | 51 => 130 | 3 => 3 | 4 => 4 | 46 => 129 | 5 => 5 | 9 => 9 | n => n, fun | n => n⟩
theorem Tryz.lays128 : Go.Proofs.Lays.n128 Tryz.prog Tryz.lays128_ren := {
  mixed := by kernel_rfl
  f128 := Tryz.func94.trans (congrArg some (by kernel_rfl))
  t3 := Tryz.underlying3
  a3 := Tryz.isAgg3
  z3 := Tryz.sizeOf3
  v3 := Tryz.zeroValue3
  t4 := Tryz.underlying4
  a4 := Tryz.isAgg4
  z4 := Tryz.sizeOf4
  v4 := Tryz.zeroValue4
  t5 := Tryz.underlying5
  a5 := Tryz.isAgg5
  z5 := Tryz.sizeOf5
  v5 := Tryz.zeroValue5
  t9 := Tryz.underlying9
  a9 := Tryz.isAgg9
  z9 := Tryz.sizeOf9
  v9 := Tryz.zeroValue9
  t46 := Tryz.underlying129
  a46 := Tryz.isAgg129
  z46 := Tryz.sizeOf129
  v46 := Tryz.zeroValue129
  t51 := Tryz.underlying130
  a51 := Tryz.isAgg130
  z51 := Tryz.sizeOf130
  v51 := Tryz.zeroValue130 }
/-- bits.Len32: "Len32 returns the minimum number of bits required to represent x; the result is 0 for x == 0.": IT RETURNS 'Lib.bitLen x'; the world is as it was. ('h0', 'h1': x is a uint32.) (LAID: no walk: one application.) -/
theorem Tryz.bits_Len32 (x : Int) (w : World) (h0 : 0 ≤ x) (h1 : x ≤ 4294967295) :
    Calls Tryz.prog 94 #[.int .u32 x] w fun e w' => e = .returned (.int .i64 (Lib.bitLen x.toNat)) ∧ w' = w := Any.bits_Len32 Tryz.lays128 x w h0 h1
def Tryz.lays125_ren : Go.Shelf.Ren := ⟨fun | 125 => 68 | 128 => 94 | 129 => 95 | n => n, fun | 46 => 129 | 3 => 3 | 51 => 130 | 53 => 141 | 4 => 4 | 5 => 5 | 9 => 9 | n => n, fun | n => n⟩
theorem Tryz.lays125 : Go.Proofs.Lays.n125 Tryz.prog Tryz.lays125_ren := {
  mixed := by kernel_rfl
  f125 := Tryz.func68.trans (congrArg some (by kernel_rfl))
  f128 := Tryz.func94.trans (congrArg some (by kernel_rfl))
  f129 := Tryz.func95.trans (congrArg some (by kernel_rfl))
  t3 := Tryz.underlying3
  a3 := Tryz.isAgg3
  z3 := Tryz.sizeOf3
  v3 := Tryz.zeroValue3
  t4 := Tryz.underlying4
  a4 := Tryz.isAgg4
  z4 := Tryz.sizeOf4
  v4 := Tryz.zeroValue4
  t5 := Tryz.underlying5
  a5 := Tryz.isAgg5
  z5 := Tryz.sizeOf5
  v5 := Tryz.zeroValue5
  t9 := Tryz.underlying9
  a9 := Tryz.isAgg9
  z9 := Tryz.sizeOf9
  v9 := Tryz.zeroValue9
  t46 := Tryz.underlying129
  a46 := Tryz.isAgg129
  z46 := Tryz.sizeOf129
  v46 := Tryz.zeroValue129
  t51 := Tryz.underlying130
  a51 := Tryz.isAgg130
  z51 := Tryz.sizeOf130
  v51 := Tryz.zeroValue130
  t53 := Tryz.underlying141
  a53 := Tryz.isAgg141
  z53 := Tryz.sizeOf141
  v53 := Tryz.zeroValue141 }
/-- bits.Len: "Len returns the minimum number of bits required to represent x; the result is 0 for x == 0.": IT RETURNS 'Lib.bitLen x'; the world is as it was. (A uint has 64 bits in the model.) ITS CALLEE bits.Len64 IS MET BY ITS OWN CONTRACT OFF THE SHELF (lay that first). (LAID: no walk: one application.) -/
theorem Tryz.bits_Len (x : Int) (w : World) (h0 : 0 ≤ x) (h1 : x ≤ 18446744073709551615) :
    Calls Tryz.prog 68 #[.int .u64 x] w fun e w' => e = .returned (.int .i64 (Lib.bitLen x.toNat)) ∧ w' = w := Any.bits_Len Tryz.lays125 x w h0 h1
def Tryz.lays129_ren : Go.Shelf.Ren := ⟨fun | 129 => 95 | n => n, fun | 53 => 141 | 3 => 3 | 4 => 4 | 46 => 129 | 5 => 5 | 9 => 9 | n => n, fun | n => n⟩
theorem Tryz.lays129 : Go.Proofs.Lays.n129 Tryz.prog Tryz.lays129_ren := {
  mixed := by kernel_rfl
  f129 := Tryz.func95.trans (congrArg some (by kernel_rfl))
  t3 := Tryz.underlying3
  a3 := Tryz.isAgg3
  z3 := Tryz.sizeOf3
  v3 := Tryz.zeroValue3
  t4 := Tryz.underlying4
  a4 := Tryz.isAgg4
  z4 := Tryz.sizeOf4
  v4 := Tryz.zeroValue4
  t5 := Tryz.underlying5
  a5 := Tryz.isAgg5
  z5 := Tryz.sizeOf5
  v5 := Tryz.zeroValue5
  t9 := Tryz.underlying9
  a9 := Tryz.isAgg9
  z9 := Tryz.sizeOf9
  v9 := Tryz.zeroValue9
  t46 := Tryz.underlying129
  a46 := Tryz.isAgg129
  z46 := Tryz.sizeOf129
  v46 := Tryz.zeroValue129
  t53 := Tryz.underlying141
  a53 := Tryz.isAgg141
  z53 := Tryz.sizeOf141
  v53 := Tryz.zeroValue141 }
/-- bits.Len64: "Len64 returns the minimum number of bits required to represent x; the result is 0 for x == 0.": IT RETURNS 'Lib.bitLen x'; the world is as it was. ('h0', 'h1': x is a uint64.) (LAID: no walk: one application.) -/
theorem Tryz.bits_Len64 (x : Int) (w : World) (h0 : 0 ≤ x) (h1 : x ≤ 18446744073709551615) :
    Calls Tryz.prog 95 #[.int .u64 x] w fun e w' => e = .returned (.int .i64 (Lib.bitLen x.toNat)) ∧ w' = w := Any.bits_Len64 Tryz.lays129 x w h0 h1
def Tryz.lays189_ren : Go.Shelf.Ren := ⟨fun | 189 => 50 | 125 => 68 | 257 => 67 | 128 => 94 | 129 => 95 | 294 => 85 | 295 => 86 | 296 => 87 | 297 => 88 | 298 => 89 | 299 => 90 | 216 => 91 | 300 => 92 | 301 => 93 | 328 => 105 | 329 => 106 | 330 => 107 | 331 => 108 | 332 => 109 | 215 => 110 | 343 => 112 | n => n, fun | 28 => 75 | 3 => 3 | 46 => 129 | 0 => 0 | 51 => 130 | 53 => 141 | 4 => 4 | 183 => 152 | 182 => 151 | 131 => 111 | 5 => 5 | 9 => 9 | 218 => 172 | 222 => 133 | 228 => 179 | 229 => 180 | n => n, fun | n => n⟩
theorem Tryz.lays189 : Go.Proofs.Lays.n189 Tryz.prog Tryz.lays189_ren := {
  mixed := by kernel_rfl
  f125 := Tryz.func68.trans (congrArg some (by kernel_rfl))
  f128 := Tryz.func94.trans (congrArg some (by kernel_rfl))
  f129 := Tryz.func95.trans (congrArg some (by kernel_rfl))
  f189 := Tryz.func50.trans (congrArg some (by kernel_rfl))
  f215 := Tryz.func110.trans (congrArg some (by kernel_rfl))
  f216 := Tryz.func91.trans (congrArg some (by kernel_rfl))
  f257 := Tryz.func67.trans (congrArg some (by kernel_rfl))
  f294 := Tryz.func85.trans (congrArg some (by kernel_rfl))
  f295 := Tryz.func86.trans (congrArg some (by kernel_rfl))
  f296 := Tryz.func87.trans (congrArg some (by kernel_rfl))
  f297 := Tryz.func88.trans (congrArg some (by kernel_rfl))
  f298 := Tryz.func89.trans (congrArg some (by kernel_rfl))
  f299 := Tryz.func90.trans (congrArg some (by kernel_rfl))
  f300 := Tryz.func92.trans (congrArg some (by kernel_rfl))
  f301 := Tryz.func93.trans (congrArg some (by kernel_rfl))
  f328 := Tryz.func105.trans (congrArg some (by kernel_rfl))
  f329 := Tryz.func106.trans (congrArg some (by kernel_rfl))
  f330 := Tryz.func107.trans (congrArg some (by kernel_rfl))
  f331 := Tryz.func108.trans (congrArg some (by kernel_rfl))
  f332 := Tryz.func109.trans (congrArg some (by kernel_rfl))
  f343 := Tryz.func112.trans (congrArg some (by kernel_rfl))
  t0 := Tryz.underlying0
  a0 := Tryz.isAgg0
  z0 := Tryz.sizeOf0
  v0 := Tryz.zeroValue0
  t3 := Tryz.underlying3
  a3 := Tryz.isAgg3
  z3 := Tryz.sizeOf3
  v3 := Tryz.zeroValue3
  t4 := Tryz.underlying4
  a4 := Tryz.isAgg4
  z4 := Tryz.sizeOf4
  v4 := Tryz.zeroValue4
  t5 := Tryz.underlying5
  a5 := Tryz.isAgg5
  z5 := Tryz.sizeOf5
  v5 := Tryz.zeroValue5
  t9 := Tryz.underlying9
  a9 := Tryz.isAgg9
  z9 := Tryz.sizeOf9
  v9 := Tryz.zeroValue9
  t28 := Tryz.underlying75
  a28 := Tryz.isAgg75
  z28 := Tryz.sizeOf75
  v28 := Tryz.zeroValue75
  t46 := Tryz.underlying129
  a46 := Tryz.isAgg129
  z46 := Tryz.sizeOf129
  v46 := Tryz.zeroValue129
  t51 := Tryz.underlying130
  a51 := Tryz.isAgg130
  z51 := Tryz.sizeOf130
  v51 := Tryz.zeroValue130
  t53 := Tryz.underlying141
  a53 := Tryz.isAgg141
  z53 := Tryz.sizeOf141
  v53 := Tryz.zeroValue141
  t131 := Tryz.underlying111
  a131 := Tryz.isAgg111
  z131 := Tryz.sizeOf111
  v131 := Tryz.zeroValue111
  t182 := Tryz.underlying151
  a182 := Tryz.isAgg151
  z182 := Tryz.sizeOf151
  v182 := Tryz.zeroValue151
  t183 := Tryz.underlying152
  a183 := Tryz.isAgg152
  z183 := Tryz.sizeOf152
  v183 := Tryz.zeroValue152
  t218 := Tryz.underlying172
  a218 := Tryz.isAgg172
  z218 := Tryz.sizeOf172
  v218 := Tryz.zeroValue172
  t222 := Tryz.underlying133
  a222 := Tryz.isAgg133
  z222 := Tryz.sizeOf133
  v222 := Tryz.zeroValue133
  t228 := Tryz.underlying179
  a228 := Tryz.isAgg179
  z228 := Tryz.sizeOf179
  v228 := Tryz.zeroValue179
  t229 := Tryz.underlying180
  a229 := Tryz.isAgg180
  z229 := Tryz.sizeOf180
  v229 := Tryz.zeroValue180 }
open Go.Sort Go.RowKit in
theorem Tryz.slices_Sort_int (blk off cap : Nat) (zs : List Int) (w : World) (hH : Holds (Value.int .i64) w blk off zs.toArray) (hblk : blk < w.heap.size) (hsz : zs.length < 4611686018427387904) :
    Calls Tryz.prog 50 #[.slice (some ⟨blk, off, none⟩) zs.length cap] w fun e w' =>
      e = .returned (.tuple #[]) ∧ ∃ n os, w' = grow (putRow (Value.int .i64) (Sort.ahead w n) blk off (zs.mergeSort fun x y => decide (x ≤ y)).toArray) os := Any.slices_Sort_int Tryz.lays189 blk off cap zs w hH hblk hsz
def Tryz.laysNm237_ren : Go.Shelf.Ren := ⟨fun | 37 => 110 | n => n, fun | 3 => 3 | 4 => 4 | n => n, fun | n => n⟩
theorem Tryz.laysNm237 : Go.Proofs.Lays2.n37 Tryz.prog Tryz.laysNm237_ren := {
  mixed := by kernel_rfl
  f37 := Tryz.func110.trans (congrArg some (by kernel_rfl))
  t3 := Tryz.underlying3
  a3 := Tryz.isAgg3
  z3 := Tryz.sizeOf3
  v3 := Tryz.zeroValue3
  t4 := Tryz.underlying4
  a4 := Tryz.isAgg4
  z4 := Tryz.sizeOf4
  v4 := Tryz.zeroValue4 }
open Go.RowKit Go.Lib in
/-- cmp.isNaN[int]: 'x != x': false. (LAID: no walk: one application.) -/
theorem Tryz.cmp_isNaN_int2 (x : Int) (w : World) :
    Calls Tryz.prog 110 #[.int .i64 x] w fun e w' => e = .returned (.bool false) ∧ w' = w := Any.cmp_isNaN_int2 Tryz.laysNm237 x w
def Tryz.laysNm231_ren : Go.Shelf.Ren := ⟨fun | 31 => 91 | 37 => 110 | n => n, fun | 3 => 3 | 4 => 4 | n => n, fun | n => n⟩
theorem Tryz.laysNm231 : Go.Proofs.Lays2.n31 Tryz.prog Tryz.laysNm231_ren := {
  mixed := by kernel_rfl
  f31 := Tryz.func91.trans (congrArg some (by kernel_rfl))
  f37 := Tryz.func110.trans (congrArg some (by kernel_rfl))
  t3 := Tryz.underlying3
  a3 := Tryz.isAgg3
  z3 := Tryz.sizeOf3
  v3 := Tryz.zeroValue3
  t4 := Tryz.underlying4
  a4 := Tryz.isAgg4
  z4 := Tryz.sizeOf4
  v4 := Tryz.zeroValue4 }
open Go.RowKit Go.Lib in
/-- cmp.Less[int]: "Less reports whether x is less than y.": 'x < y'; the world is as it was. (LAID: no walk: one application.) -/
theorem Tryz.cmp_Less_int2 (x y : Int) (w : World) :
    Calls Tryz.prog 91 #[.int .i64 x, .int .i64 y] w fun e w' => e = .returned (.bool (decide (x < y))) ∧ w' = w := Any.cmp_Less_int2 Tryz.laysNm231 x y w
open Go.RowKit Go.Sort in
/-- .. and plain. (LAID: no walk: one application.) -/
theorem Tryz.slices_Sort_int_none (p : Option Addr) (cap : Nat) (w : World) :
    Calls Tryz.prog 50 #[.slice p 0 cap] w fun e w' => e = .returned (.tuple #[]) ∧ w' = w := Any.slices_Sort_int_none Tryz.lays189 p cap w
def Tryz.laysnb115_ren : Go.Shelf.Ren := ⟨fun | 115 => 54 | n => n, fun | 37 => 77 | 4 => 4 | 9 => 9 | 5 => 5 | n => n, fun | n => n⟩
theorem Tryz.laysnb115 : Go.Proofs.Lays.nb115 Tryz.prog Tryz.laysnb115_ren := {
  mixed := by kernel_rfl
  f115 := Tryz.func54.trans (congrArg some (by kernel_rfl))
  t4 := Tryz.underlying4
  a4 := Tryz.isAgg4
  z4 := Tryz.sizeOf4
  v4 := Tryz.zeroValue4
  t9 := Tryz.underlying9
  a9 := Tryz.isAgg9
  z9 := Tryz.sizeOf9
  v9 := Tryz.zeroValue9
  t37 := Tryz.underlying77
  a37 := Tryz.isAgg77
  z37 := Tryz.sizeOf77
  v37 := Tryz.zeroValue77
  t5 := Tryz.underlying5
  a5 := Tryz.isAgg5
  z5 := Tryz.sizeOf5
  v5 := Tryz.zeroValue5 }
/-- bytes.Equal: WHOLE. (LAID: no walk: one application.) -/
theorem Tryz.bytes_Equal_all (p1 p2 : Option Addr) (n c m d : Nat) (xs ys : List Int) (w : World) (hx : xs.length = n) (hy : ys.length = m) (h1 : Lib.BytesIn w p1 n xs) (h2 : Lib.BytesIn w p2 m ys) :
    Calls Tryz.prog 54 #[.slice p1 n c, .slice p2 m d] w fun e w' => e = .returned (.bool (Lib.bytesOf xs == Lib.bytesOf ys)) ∧ w' = w := Any.bytes_Equal_all Tryz.laysnb115 p1 p2 n c m d xs ys w hx hy h1 h2
def Tryz.lays115_ren : Go.Shelf.Ren := ⟨fun | 115 => 54 | n => n, fun | 37 => 77 | 4 => 4 | 9 => 9 | 5 => 5 | n => n, fun | n => n⟩
theorem Tryz.lays115 : Go.Proofs.Lays.n115 Tryz.prog Tryz.lays115_ren := {
  mixed := by kernel_rfl
  f115 := Tryz.func54.trans (congrArg some (by kernel_rfl))
  t4 := Tryz.underlying4
  a4 := Tryz.isAgg4
  z4 := Tryz.sizeOf4
  v4 := Tryz.zeroValue4
  t9 := Tryz.underlying9
  a9 := Tryz.isAgg9
  z9 := Tryz.sizeOf9
  v9 := Tryz.zeroValue9
  t37 := Tryz.underlying77
  a37 := Tryz.isAgg77
  z37 := Tryz.sizeOf77
  v37 := Tryz.zeroValue77 }
/-- bytes.Equal: "Equal reports whether a and b are the same length and contain the same bytes. A nil argument is equivalent to an empty slice.": IT RETURNS 'the bytes of the one == the bytes of the other'; the world is as it was. THE TWO ARGUMENTS COME AS WHATEVER VALUES, each with the one fact that the walk wants of it: what 'string(..)' of it gives: for a slice whose cells you know: 'run_convert_bytes_arg' (Derived/Laws/BytesArg.lean) hands that fact; for a nil one: 'run_convert_bytes_nil' (with xs := []). (LAID: no walk: one application.) -/
theorem Tryz.bytes_Equal (v1 v2 : Value) (xs ys : List Int) (w : World) (h1 : (convert 77 9 v1).run Tryz.prog w = .ok (.string (strOfNums xs)) w) (h2 : (convert 77 9 v2).run Tryz.prog w = .ok (.string (strOfNums ys)) w) :
    Calls Tryz.prog 54 #[v1, v2] w fun e w' => e = .returned (.bool (Lib.bytesOf xs == Lib.bytesOf ys)) ∧ w' = w := Any.bytes_Equal Tryz.lays115 v1 v2 xs ys w h1 h2
end Go.Proofs

/-
  The library's sort of numbers, as a contract of this calculus.
-/
set_option linter.unusedVariables false
set_option linter.unusedSimpArgs false
namespace Go.Sl
open Go
theorem on.upd {g w w' : World} {l r : Hp} {b : Nat} {o o' : Obj} (H : on g (l ++ (b, o) :: r) w) (a : Amb w w') (e : w'.heap[b]? = some o') (k : ∀ k, k ≠ b → k < w.heap.size → w'.heap[k]? = w.heap[k]?) :
    on g (l ++ (b, o') :: r) w' := by
  have hn := H.2.1
  refine ⟨H.1.trans a, by simpa using hn, fun b' o'' hm => ?_⟩
  simp only [List.map_append, List.map_cons] at hn
  rw [List.nodup_append] at hn
  obtain ⟨_, hn2, hn3⟩ := hn
  rw [List.nodup_cons] at hn2
  rcases List.mem_append.1 hm with h1 | h1
  · have hne : b' ≠ b := hn3 b' (List.mem_map.2 ⟨_, h1, rfl⟩) b (List.mem_cons_self)
    have hm' : (b', o'') ∈ l ++ (b, o) :: r := List.mem_append_left _ h1
    rw [k b' hne (H.lt hm')]; exact H.2.2 b' o'' hm'
  · rcases List.mem_cons.1 h1 with h2 | h2
    · cases h2; exact e
    · have hne : b' ≠ b := fun hb => hn2.1 (hb ▸ List.mem_map.2 ⟨_, h2, rfl⟩)
      have hm' : (b', o'') ∈ l ++ (b, o) :: r := List.mem_append_right _ (List.mem_cons_of_mem _ h2)
      rw [k b' hne (H.lt hm')]; exact H.2.2 b' o'' hm'
/-- The numbers, rising. -/
def sortL (xs : List Int) : List Int := xs.mergeSort fun x y => decide (x ≤ y)
theorem sortL_len (xs : List Int) : (sortL xs).length = xs.length := List.length_mergeSort _
theorem encs_int (xs : List Int) : encs xs = xs.map (Value.int .i64) := by
  induction xs with
  | nil => rfl
  | cons x r ih => show Enc.enc x ++ encs r = _; rw [ih]; rfl
theorem put_sorted {xs ys : List Int} {sp : List Value} (hl : ys.length = xs.length) : Sort.putCells (Value.int .i64) 0 ys.toArray (List.toArray (encs xs ++ sp)) = List.toArray (encs ys ++ sp) := by
  unfold Sort.putCells
  rw [encs_int, encs_int]
  apply Array.ext
  · simp [hl]
  · intro i h1 h2
    simp only [Array.getElem_mapIdx, List.getElem_toArray, List.size_toArray, Nat.zero_le, true_and, Nat.zero_add, Nat.sub_zero]
    by_cases h : i < ys.length
    · rw [if_pos h, List.getElem_append_left (by simpa using h), List.getElem_map]
      congr 1
      simp [h]
    · rw [if_neg h, List.getElem_append_right (by simp; omega), List.getElem_append_right (by simp; omega)]
      simp [hl]
end Go.Sl
namespace Go.Proofs.YtihaajncebdioaaGreat
open Go Go.Sl
theorem sort_ct {xs : List Int} {v : Value} {h : Hp} (hs : IsSl 3 xs v h) (hl : xs.length ≤ 1099511627776) :
    Ct Tryz.prog 50 [v] [h] (fun r H' => r = .tuple #[] ∧ ∃ h', H' = [h'] ∧ IsSl 3 (sortL xs) v h') := by
  refine ⟨fun g R w hw => ?_⟩
  rcases hs with ⟨rfl, rfl, rfl⟩ | ⟨b, cap, sp, fr, rfl, rfl, h1, h2, h3⟩
  · refine (Tryz.slices_Sort_int_none none 0 w).mono fun e w' ⟨he, hw'⟩ => ?_
    subst he; subst hw'
    exact ⟨_, [[]], rfl, ⟨rfl, [], rfl, by show IsSl _ (sortL []) _ _; rw [show sortL [] = [] from List.length_eq_zero_iff.1 (sortL_len [])]; exact IsSl.nil _⟩, by simpa using hw⟩
  · have hw2 : on g ([] ++ (b, .cells (List.toArray (encs xs ++ sp)) 3 fr) :: R) w := by simpa using hw
    have hh := hw2.2.2 b (.cells (List.toArray (encs xs ++ sp)) 3 fr) (by simp)
    have hlen : (encs xs ++ sp).length = cap := by
      rw [List.length_append, encs_len, h2]
      show xs.length * 1 + (cap - xs.length) * 1 = cap
      omega
    have hH : Sort.Holds (Value.int .i64) w b 0 xs.toArray := by
      intro j hj
      have hj' : j < xs.length := by simpa using hj
      rw [Nat.zero_add]
      refine ⟨?_, frozen_free hh (by rw [hlen]; have h4 : Free fr (cap * 1) := h3; rwa [Nat.mul_one] at h4) (by rw [hlen]; omega)⟩
      rw [cell_bk hh, encs_int, List.getElem?_append_left (by simpa using hj'), List.getElem?_map, List.getElem?_eq_getElem hj']
      simp [hj']
    refine (Tryz.slices_Sort_int b 0 cap xs w hH (Array.getElem?_eq_some_iff.1 hh).1 (by omega)).mono fun e w' ⟨he, n, os, hw'⟩ => ?_
    subst he; subst hw'
    refine ⟨_, [[(b, .cells (List.toArray (encs (sortL xs) ++ sp)) 3 fr)]], rfl, ⟨rfl, _, rfl, .inr ⟨b, cap, sp, fr, by rw [sortL_len], rfl, by rw [sortL_len]; exact h1, by rw [sortL_len]; exact h2, h3⟩⟩, ?_⟩
    have hb := (Array.getElem?_eq_some_iff.1 hh).1
    have := on.upd (o' := .cells (List.toArray (encs (sortL xs) ++ sp)) 3 fr) (w' := Sort.grow (Sort.putRow (Value.int .i64) (Sort.ahead w n) b 0 (sortL xs).toArray) os) hw2 ⟨rfl, rfl, rfl, by simp [Sort.grow, Sort.putRow, Sort.mapBlock, Sort.ahead]⟩ ?_ ?_
    · have h5 : on g ([] ++ (b, .cells (List.toArray (encs (sortL xs) ++ sp)) 3 fr) :: R) (Sort.grow (Sort.putRow (Value.int .i64) (Sort.ahead w n) b 0 (xs.mergeSort fun x y => decide (x ≤ y)).toArray) os) := this
      simpa using h5
    · simp only [Sort.grow, Sort.putRow, Sort.mapBlock, Sort.ahead]
      rw [Array.getElem?_append_left (by simpa using hb), Array.getElem?_modify, if_pos rfl, hh]
      simp only [Option.map_some, Sort.onCells]
      rw [put_sorted (sortL_len xs)]
    · intro k hk hlt
      simp only [Sort.grow, Sort.putRow, Sort.mapBlock, Sort.ahead]
      rw [Array.getElem?_append_left (by simpa using hlt), Array.getElem?_modify, if_neg (fun e => hk e.symm)]
end Go.Proofs.YtihaajncebdioaaGreat

/-
  Regions that draw, in which a block is read in one cell and written in another: what holds of the world all along is a family of memories.
-/
set_option linter.unusedVariables false
set_option linter.unusedSimpArgs false
namespace Go.Sl
open Go
section
variable {g : World} {P : Program} {ops : Array Oper} {Q : Exit → Act → World → Prop} {n : Nat} {L : Fm} {H : HH} {C : World → Prop} {tail : List Oper} {z : List (Bool × Oper)} {o : Oper}
variable {d : Nat} {ty : TypeId} {pos : String} {af : Array Edge} {v : Value}
/-- Whichever of these memories it is. -/
def Cf (g : World) {ι : Type} (Hf : ι → HH) : World → Prop := fun w => ∃ i, on g (Hf i).flatten w
structure WN (g : World) (P : Program) (ops : Array Oper) (Q : Exit → Act → World → Prop) (n : Nat) (C : World → Prop) (tail : List Oper) (z : List (Bool × Oper)) (L : Fm) (H : HH) : Prop where
  run : ∀ a w, Fr n L a → on g H.flatten w → lexM P ops C Q tail z a w
def QunN (g : World) (P : Program) (ops : Array Oper) (Q : Exit → Act → World → Prop) (C : World → Prop) (tail : List Oper) (z : List (Bool × Oper)) (H : HH) : Exit → Act → World → Prop :=
  fun _ a _ => ∀ w, on g H.flatten w → lexM P ops C Q tail z a w
def QanN (P : Program) (ops : Array Oper) (Q : Exit → Act → World → Prop) (C : World → Prop) (tail : List Oper) (z : List (Bool × Oper)) : Exit → Act → World → Prop
  | .normal, a, w => C w ∧ lexM P ops C Q tail z a w
  | _, _, _ => False
theorem W.mixC {id : Nat} {l : List Oper} (ms : List Bool) (C : World → Prop) (hC : ∀ w, on g H.flatten w → C w) (hm : P.follows .mixedOrders = true) (hB : mixB .any l.toArray ms = true) (h : WN g P l.toArray Q n C (l.drop ms.length) (ms.zip l) L H) :
    W g P (.region id l.toArray true) Q n L H := .mk fun a w ha hw =>
  have hd : on g H.flatten w.drew := hw.heap rfl ⟨rfl, rfl, rfl, Nat.le_refl _⟩
  wp_region_mix (C := C) ms hm hB (hC _ hd) (h.run a _ ha hd)
theorem WN.nil (h : WX false g P ops Q n tail L H) : WN g P ops Q n C tail [] L H := ⟨fun a w ha hw => h a w ha hw⟩
theorem WN.un0 [nv : NV P o] (hc : ∀ w, C w → Amb g w) (h : WX true g P ops (QunN g P ops Q C tail z H) n [o] L []) : WN g P ops Q n C tail ((true, o) :: z) L H := ⟨fun a w ha hw => by
  have hon : ∀ w', Amb g w' → on g (List.flatten []) w' := fun w' h => ⟨h, by simp, by simp⟩
  have h1 : wpQuiet P ops (on g (List.flatten [])) (fun a' => ∀ w', on g (List.flatten []) w' → QunN g P ops Q C tail z H .normal a' w') [o] a := h a w ha (hon w hw.1)
  simp only [wpQuiet] at h1
  by_cases hwa : Region.wanted o (yielded ops a.tmps) = true
  · rw [if_pos hwa] at h1
    obtain ⟨v, hv, hK⟩ := h1
    refine ⟨v, .inl ⟨hwa, fun w' hw' => ?_⟩, hK w (hon w hw.1) w hw⟩
    have h2 := hv w' (hon w' (hc w' hw'))
    unfold Oper.quietAt at h2
    cases hr : (execOp a.eval o).run P w' with
    | halt x w1 => rw [hr] at h2; exact h2.elim
    | ok nx w1 =>
      obtain ⟨u, rfl⟩ := nv.h a w' nx w1 hr
      rw [hr] at h2
      obtain ⟨rfl, rfl⟩ := h2
      rfl
  · rw [if_neg hwa] at h1
    exact ⟨undef, .inr ⟨by simpa using hwa, rfl⟩, h1 w (hon w hw.1) w hw⟩⟩
theorem WN.back0 (h : WN g P ops Q n C tail z L H) {H' : HH} : D g (QunN g P ops Q C tail z H) .normal n L H' := .mk fun a w ha _ w' hw' => h.run a w' ha hw'
theorem WN.load {x : Operand} {t b i : Nat} (hx : ev L x = some (.pointer (some ⟨b, i, none⟩))) [ht : TL P t 1 false] (hc : ∀ w, C w → w.cell? ⟨b, i, none⟩ = some v) (hd : Nat.blt d n = true) (kk : WN g P ops Q n C tail z ((d, v) :: L) H) :
    WN g P ops Q n C tail ((true, ⟨some d, .load t x, ty, pos, af, none⟩) :: z) L H := ⟨fun a w ha hw => by
  refine ⟨v, .inl ⟨rfl, fun w' hw' => ?_⟩, kk.run _ w (ha.put (Nat.le_of_ble_eq_true hd) v) hw⟩
  simp [execOp, ha.ev hx, Instr.loadAt, Instr.sureAddr, loadVar, ht.isAgg, hc w' hw']⟩
theorem WN.an [nd : ND P o] (h : WX false g P ops (QanN P ops Q C tail z) n [o] L H) : WN g P ops Q n C tail ((false, o) :: z) L H := ⟨fun a w ha hw => by
  have h1 : wpList P ops (QanN P ops Q C tail z) [o] a w := h a w ha hw
  have hout : ¬ LetsOut (QanN P ops Q C tail z) := fun ⟨_, _, h⟩ => h
  simp only [wpList] at h1
  show AnR P ops o _ a w
  by_cases hwa : Region.wanted o (yielded ops a.tmps) = true
  · rw [if_pos hwa] at h1
    rcases h1 with h1 | ⟨_, h1⟩
    · refine .inr ⟨hwa, ?_⟩
      unfold Oper.wp at h1
      cases hr : (execOp a.eval o).run P w with
      | halt x w1 =>
        rw [hr] at h1
        cases x <;> exact h1.elim
      | ok nx w1 =>
        rw [hr] at h1
        rcases nd.h a w nx w1 hr with ⟨v, rfl⟩ | rfl | ⟨f, args, rfl⟩
        · exact .inl ⟨v, w1, rfl, h1⟩
        · exact .inr (.inl ⟨w1, rfl, h1⟩)
        · refine .inr (.inr ⟨f, args, w1, rfl, ?_⟩)
          refine Calls.mono h1 fun e w'' he => ?_
          cases e with
          | returned v => exact ⟨v, rfl, he⟩
          | panicked ch => exact he.elim
          | outgrown => exact (hout he).elim
    · exact (hout h1).elim
  · rw [if_neg hwa] at h1
    exact .inl ⟨by simpa using hwa, h1⟩⟩
theorem WN.back {H : HH} (hC : ∀ w, on g H.flatten w → C w) (h : WN g P ops Q n C tail z L H) : D g (QanN P ops Q C tail z) .normal n L H := .mk fun a w ha hw => ⟨hC w hw, h.run a w ha hw⟩
instance NV.lookup {gd : Option (Nat × Bool)} {d : Option Nat} {t : Nat} {x y : Operand} {b : Bool} : NV P ⟨d, .lookup t x y b, ty, pos, af, gd⟩ := ⟨fun _ _ _ _ h => nd_v h⟩
theorem Cf.amb {ι : Type} {Hf : ι → HH} {w : World} (h : Cf g Hf w) : Amb g w := let ⟨_, h⟩ := h; h.1
theorem Cf.of {ι : Type} {Hf : ι → HH} {w : World} (i : ι) {r : HH} [k : Picks (Hf i) H r] (h : on g H.flatten w) : Cf g Hf w := ⟨i, (Hsub.of_picks k).on h⟩
end
end Go.Sl

/-
  The disk in plain Lean, and as it lies in memory.
-/
set_option linter.unusedVariables false
set_option linter.unusedSimpArgs false
namespace Go.Proofs.YtihaajncebdioaaGreat
open Go Go.Sl

structure FileP where
  n : Int
  b : List UInt8 := []
  s : Nat := 0
structure Pc where
  f : Int
  n : Int
instance : Enc Pc := ⟨2, fun p => [.int .i64 p.f, .int .i64 p.n], fun _ => rfl, fun _ => rfl, by decide⟩
structure DkS where
  fs : List FileP := []
  loose : List Pc := []
namespace DkS
variable (S : DkS)
def find (k : Int) : Option FileP := S.fs.find? fun f => decide (f.n = k)
def size (k : Int) : Nat := match S.find k with
  | none => 0
  | some f => f.b.length
def synced (k : Int) : Nat := match S.find k with
  | none => 0
  | some f => f.s
def used : Nat := (S.fs.map (·.b.length)).sum
def names : List Int := sortL (S.fs.map (·.n))
def looseN : Int := (S.loose.map (·.n)).sum
def onF (k : Int) (g : FileP → FileP) : List FileP := S.fs.map fun f => if f.n = k then g f else f
def appE (k : Int) (len : Nat) : Int := if k < 0 ∨ 1099511627776 < k then 50 else if ((S.find k).isNone = true ∧ 64 ≤ S.fs.length) ∨ 1048576 < S.used + len then 51 else 0
def app (k : Int) (b : List UInt8) : DkS :=
  if S.appE k b.length = 0 then { fs := if (S.find k).isNone = true then S.fs ++ [{ n := k, b := b, s := 0 }] else S.onF k fun f => { f with b := f.b ++ b }, loose := S.loose ++ [⟨k, b.length⟩] } else S
def errE (k : Int) : Int := if (S.find k).isNone = true then 50 else 0
def sync (k : Int) : DkS := if (S.find k).isNone = true then S else { fs := S.onF k fun f => { f with s := f.b.length }, loose := S.loose.filter fun p => decide (p.f ≠ k) }
def remove (k : Int) : DkS := if (S.find k).isNone = true then S else { fs := S.fs.filter fun f => decide (f.n ≠ k), loose := S.loose.filter fun p => decide (p.f ≠ k) }
end DkS

/-- A file, with where it lies. -/
structure Fl where
  n : Int
  b : List UInt8
  s : Nat
  blk : Nat
  p : Option Addr
  l : Nat
  c : Nat
  h : Hp
  born : Nat
def Fl.file (f : Fl) : FileP := ⟨f.n, f.b, f.s⟩
def Fl.ok (f : Fl) : Prop := IsSl 5 f.b (.slice f.p f.l f.c) f.h
def Fl.me (f : Fl) : Me := ⟨f.n, .pointer (some ⟨f.blk, 0, none⟩), f.born⟩
abbrev FBk (blk : Nat) (v : Value) (s : Nat) : Hp := [(blk, .cells (List.toArray [v, .int .i64 (s : Int)]) 89 (0, 0))]
def Fl.hp (f : Fl) : Hp := FBk f.blk (.slice f.p f.l f.c) f.s ++ f.h
def fhp (fs : List Fl) : Hp := (fs.map Fl.hp).flatten
abbrev DBk (d m : Nat) (lv : Value) : Hp := [(d, .cells (List.toArray [.map (some m), lv]) 69 (0, 0))]
abbrev MBk (m : Nat) (fs : List Fl) (c : Nat) : Hp := [(m, mob (fs.map Fl.me) c)]
structure Dk3 (S : DkS) (c : Nat) (lv : Value) (fs : List Fl) (lh : Hp) : Prop where
  mp : MpOk (fs.map Fl.me) c
  ok : ∀ f ∈ fs, f.ok
  fs : fs.map Fl.file = S.fs
  sl : IsSl 87 S.loose lv lh
def IsDk (S : DkS) (d : Nat) (h : Hp) : Prop := ∃ m c lv fs lh, Dk3 S c lv fs lh ∧ h = DBk d m lv ++ (MBk m fs c ++ (lh ++ fhp fs))

section
variable {S : DkS} {c : Nat} {lv : Value} {fs : List Fl} {lh : Hp} {k : Int} {f : Fl}
theorem mfind_me : ∀ (fs : List Fl) (k : Int), mfind (fs.map Fl.me) k = (fs.find? fun f => decide (f.n = k)).map Fl.me := by
  intro fs k
  unfold mfind
  rw [List.find?_map]
  rfl
theorem find_file (fs : List Fl) (k : Int) : (fs.map Fl.file).find? (fun f => decide (f.n = k)) = (fs.find? fun f => decide (f.n = k)).map Fl.file := by
  rw [List.find?_map]
  rfl
theorem Dk3.len (h : Dk3 S c lv fs lh) : fs.length = S.fs.length := by rw [← h.fs, List.length_map]
theorem Dk3.no (h : Dk3 S c lv fs lh) (hk : S.find k = none) : mfind (fs.map Fl.me) k = none ∧ mval (fs.map Fl.me) k (.pointer none) = .pointer none := by
  unfold DkS.find at hk
  rw [← h.fs, find_file] at hk
  have : mfind (fs.map Fl.me) k = none := by
    rw [mfind_me]
    cases hf : fs.find? fun f => decide (f.n = k) with
    | none => rfl
    | some f => rw [hf] at hk; cases hk
  exact ⟨this, by unfold mval; rw [this]⟩
theorem Dk3.has (h : Dk3 S c lv fs lh) {x : FileP} (hk : S.find k = some x) : ∃ f pre post, fs = pre ++ f :: post ∧ f.file = x ∧ f.n = k ∧ f.ok ∧ (∀ f' ∈ pre, f'.n ≠ k) ∧ (∀ f' ∈ post, f'.n ≠ k) ∧ mval (fs.map Fl.me) k (.pointer none) = .pointer (some ⟨f.blk, 0, none⟩) := by
  unfold DkS.find at hk
  rw [← h.fs, find_file] at hk
  cases hf : fs.find? fun f => decide (f.n = k) with
  | none => rw [hf] at hk; cases hk
  | some f =>
    rw [hf] at hk
    have hx : f.file = x := by simpa using hk
    have hn : f.n = k := by simpa using List.find?_some hf
    obtain ⟨pre, post, e, hp⟩ := List.find?_eq_some_iff_append.1 hf |>.2
    have hks := h.mp.ks
    rw [e] at hks
    simp only [List.map_append, List.map_cons] at hks
    rw [List.nodup_append] at hks
    obtain ⟨_, h2, _⟩ := hks
    rw [List.nodup_cons] at h2
    refine ⟨f, pre, post, e, hx, hn, h.ok f (List.mem_of_find?_eq_some hf), fun f' hf' => by have := hp f' hf'; simpa using this, fun f' hf' he => ?_, ?_⟩
    · exact h2.1 (List.mem_map.2 ⟨f'.me, List.mem_map.2 ⟨f', hf', rfl⟩, he.trans hn.symm⟩)
    · unfold mval
      rw [mfind_me, hf]
      rfl
theorem fhp_split {pre post : List Fl} : fhp (pre ++ f :: post) = fhp pre ++ (FBk f.blk (.slice f.p f.l f.c) f.s ++ (f.h ++ fhp post)) := by simp [fhp, Fl.hp]
end
theorem used_sum {fs : List Fl} : ((fs.map Fl.file).map (·.b.length)).sum = (fs.map (·.b.length)).sum := by rw [List.map_map]; rfl
end Go.Proofs.YtihaajncebdioaaGreat

/-
  The disk's calls that only read: Size, Synced, Read, Loose, Used, Files.
-/
set_option linter.unusedVariables false
set_option linter.unusedSimpArgs false
namespace Go.Proofs.YtihaajncebdioaaGreat
open Go Go.Sl

theorem dnew_ct : Ct Tryz.prog 7 [] [] (fun r H' => ∃ d h', r = .pointer (some ⟨d, 0, none⟩) ∧ H' = [h'] ∧ IsDk {} d h') := by
  refine Ct.pack (pre := []) (post := fun r H' => ∃ d m, r = .pointer (some ⟨d, 0, none⟩) ∧ H' = [DBk d m (.slice none 0 0), MBk m [] 0]) ?_ rfl (fun r H' ⟨d, m, e, f⟩ => ⟨[DBk d m (.slice none 0 0) ++ (MBk m [] 0 ++ ([] ++ fhp []))], by rw [f]; simp [fhp], d, _, e, rfl, m, 0, _, [], [], ⟨MpOk.new, by simp, rfl, IsSl.nil _⟩, rfl⟩)
  refine Ct.mk' Tryz.func7 rfl rfl rfl (fun g R => ?_)
  try simp only [List.cons_append]
  simp only [List.nil_append]
  repeat' (first | refine go ?_ | refine asg ?_ | refine bd ?_ | refine bx rfl (fun _ => ?_) | (refine WX.makeMap rfl (fun _ => ?_)) | fail)
  rename_i m d
  refine D.flat (H' := [DBk d m (.slice none 0 0), MBk m [] 0, R]) rfl ?_
  exact D.fin1 [DBk d m (.slice none 0 0), MBk m [] 0] _ rfl rfl ⟨d, m, rfl, rfl⟩

theorem size_ct {S : DkS} {d : Nat} {h : Hp} (hd : IsDk S d h) (k : Int) :
    Ct Tryz.prog 29 [.pointer (some ⟨d, 0, none⟩), .int .i64 k] [h] (fun r H' => r = .int .i64 (S.size k : Int) ∧ H' = [h]) := by
  obtain ⟨m, c, lv, fs, lh, hd, rfl⟩ := hd
  cases hk : S.find k with
  | none =>
    obtain ⟨_, hv⟩ := hd.no hk
    refine Ct.pack (pre := [DBk d m lv, MBk m fs c, lh, fhp fs]) (post := fun r H' => r = .int .i64 0 ∧ H' = [DBk d m lv, MBk m fs c, lh, fhp fs]) ?_ (by simp) (fun r H' p => ⟨[DBk d m lv ++ (MBk m fs c ++ (lh ++ fhp fs))], by rw [p.2]; simp, by rw [p.1, DkS.size, hk]; rfl, rfl⟩)
    refine Ct.mk' Tryz.func29 rfl rfl rfl (fun g R => ?_)
    try simp only [List.cons_append]
    simp only [List.nil_append]
    repeat' (first | refine go ?_ | refine mv ?_ | (refine I.ld ?_; refine ld rfl ?_) | refine asg ?_ | (refine I.fa ?_; refine fa ?_) | (refine I.nc ?_; refine nc ?_) | fail)
    refine WX.lookup rfl rfl rfl ?_
    rw [hv]
    repeat' (first | refine go ?_ | refine mv ?_ | refine asg ?_ | (refine I.bin ?_; refine np rfl rfl ?_) | (refine I.cond ?_; refine cF ?_) | fail)
    exact D.fin1 [DBk d m lv, MBk m fs c, lh, fhp fs] _ rfl rfl ⟨rfl, rfl⟩
  | some x =>
    obtain ⟨f, pre, post, rfl, rfl, hn, hok, h1, h2, hv⟩ := hd.has hk
    have hr := IsSl.rs hok
    refine Ct.pack (pre := [DBk d m lv, MBk m (pre ++ f :: post) c, lh, fhp pre, FBk f.blk (.slice f.p f.l f.c) f.s, f.h, fhp post]) (post := fun r H' => r = .int .i64 (f.b.length : Int) ∧ H' = [DBk d m lv, MBk m (pre ++ f :: post) c, lh, fhp pre, FBk f.blk (.slice f.p f.l f.c) f.s, f.h, fhp post]) ?_ (by rw [fhp_split]; simp) (fun r H' p => ⟨[DBk d m lv ++ (MBk m (pre ++ f :: post) c ++ (lh ++ fhp (pre ++ f :: post)))], by rw [p.2, fhp_split]; simp, by rw [p.1, DkS.size, hk]; rfl, rfl⟩)
    refine Ct.mk' Tryz.func29 rfl rfl rfl (fun g R => ?_)
    try simp only [List.cons_append]
    simp only [List.nil_append]
    repeat' (first | refine go ?_ | refine mv ?_ | (refine I.ld ?_; refine ld rfl ?_) | refine asg ?_ | (refine I.fa ?_; refine fa ?_) | (refine I.nc ?_; refine nc ?_) | fail)
    refine WX.lookup rfl rfl rfl ?_
    rw [hv]
    repeat' (first | refine go ?_ | refine mv ?_ | (refine I.ld ?_; refine ld rfl ?_) | refine asg ?_ | (refine I.fa ?_; refine fa ?_) | (refine I.nc ?_; refine nc ?_) | (refine I.bin ?_; refine np rfl rfl ?_) | (refine I.cond ?_; refine cT ?_) | (refine I.bi ?_; refine ln rfl (by assumption) ?_) | fail)
    exact D.fin1 [DBk d m lv, MBk m (pre ++ f :: post) c, lh, fhp pre, FBk f.blk (.slice f.p f.l f.c) f.s, f.h, fhp post] _ rfl rfl ⟨rfl, rfl⟩
theorem synced_ct {S : DkS} {d : Nat} {h : Hp} (hd : IsDk S d h) (k : Int) :
    Ct Tryz.prog 33 [.pointer (some ⟨d, 0, none⟩), .int .i64 k] [h] (fun r H' => r = .int .i64 (S.synced k : Int) ∧ H' = [h]) := by
  obtain ⟨m, c, lv, fs, lh, hd, rfl⟩ := hd
  cases hk : S.find k with
  | none =>
    obtain ⟨_, hv⟩ := hd.no hk
    refine Ct.pack (pre := [DBk d m lv, MBk m fs c, lh, fhp fs]) (post := fun r H' => r = .int .i64 0 ∧ H' = [DBk d m lv, MBk m fs c, lh, fhp fs]) ?_ (by simp) (fun r H' p => ⟨[DBk d m lv ++ (MBk m fs c ++ (lh ++ fhp fs))], by rw [p.2]; simp, by rw [p.1, DkS.synced, hk]; rfl, rfl⟩)
    refine Ct.mk' Tryz.func33 rfl rfl rfl (fun g R => ?_)
    try simp only [List.cons_append]
    simp only [List.nil_append]
    repeat' (first | refine go ?_ | refine mv ?_ | (refine I.ld ?_; refine ld rfl ?_) | refine asg ?_ | (refine I.fa ?_; refine fa ?_) | (refine I.nc ?_; refine nc ?_) | fail)
    refine WX.lookup rfl rfl rfl ?_
    rw [hv]
    repeat' (first | refine go ?_ | refine mv ?_ | refine asg ?_ | (refine I.bin ?_; refine np rfl rfl ?_) | (refine I.cond ?_; refine cF ?_) | fail)
    exact D.fin1 [DBk d m lv, MBk m fs c, lh, fhp fs] _ rfl rfl ⟨rfl, rfl⟩
  | some x =>
    obtain ⟨f, pre, post, rfl, rfl, hn, hok, h1, h2, hv⟩ := hd.has hk
    have hr := IsSl.rs hok
    refine Ct.pack (pre := [DBk d m lv, MBk m (pre ++ f :: post) c, lh, fhp pre, FBk f.blk (.slice f.p f.l f.c) f.s, f.h, fhp post]) (post := fun r H' => r = .int .i64 (f.s : Int) ∧ H' = [DBk d m lv, MBk m (pre ++ f :: post) c, lh, fhp pre, FBk f.blk (.slice f.p f.l f.c) f.s, f.h, fhp post]) ?_ (by rw [fhp_split]; simp) (fun r H' p => ⟨[DBk d m lv ++ (MBk m (pre ++ f :: post) c ++ (lh ++ fhp (pre ++ f :: post)))], by rw [p.2, fhp_split]; simp, by rw [p.1, DkS.synced, hk]; rfl, rfl⟩)
    refine Ct.mk' Tryz.func33 rfl rfl rfl (fun g R => ?_)
    try simp only [List.cons_append]
    simp only [List.nil_append]
    repeat' (first | refine go ?_ | refine mv ?_ | (refine I.ld ?_; refine ld rfl ?_) | refine asg ?_ | (refine I.fa ?_; refine fa ?_) | (refine I.nc ?_; refine nc ?_) | fail)
    refine WX.lookup rfl rfl rfl ?_
    rw [hv]
    repeat' (first | refine go ?_ | refine mv ?_ | (refine I.ld ?_; refine ld rfl ?_) | refine asg ?_ | (refine I.fa ?_; refine fa ?_) | (refine I.nc ?_; refine nc ?_) | (refine I.bin ?_; refine np rfl rfl ?_) | (refine I.cond ?_; refine cT ?_) | fail)
    exact D.fin1 [DBk d m lv, MBk m (pre ++ f :: post) c, lh, fhp pre, FBk f.blk (.slice f.p f.l f.c) f.s, f.h, fhp post] _ rfl rfl ⟨rfl, rfl⟩

theorem loose_ct {S : DkS} {d : Nat} {h : Hp} (hd : IsDk S d h) (hll : S.loose.length ≤ 1099511627776) (hb : ∀ k, k ≤ S.loose.length → -9223372036854775808 ≤ ((S.loose.take k).map (·.n)).sum ∧ ((S.loose.take k).map (·.n)).sum ≤ 9223372036854775807) :
    Ct Tryz.prog 48 [.pointer (some ⟨d, 0, none⟩)] [h] (fun r H' => r = .int .i64 S.looseN ∧ H' = [h]) := by
  obtain ⟨m, c, lv, fs, lh, hd, rfl⟩ := hd
  have hr := hd.sl.rs
  refine Ct.pack (pre := [DBk d m lv, MBk m fs c, lh, fhp fs]) (post := fun r H' => r = .int .i64 S.looseN ∧ H' = [DBk d m lv, MBk m fs c, lh, fhp fs]) ?_ (by simp) (fun r H' p => ⟨[DBk d m lv ++ (MBk m fs c ++ (lh ++ fhp fs))], by rw [p.2]; simp, p.1, rfl⟩)
  refine Ct.mk' Tryz.func48 rfl rfl rfl (fun g R => ?_)
  try simp only [List.cons_append]
  simp only [List.nil_append]
  repeat' (first | refine go ?_ | refine mv ?_ | (refine I.ld ?_; refine ld rfl ?_) | refine asg ?_ | (refine I.fa ?_; refine fa ?_) | (refine I.nc ?_; refine nc ?_) | (refine I.bi ?_; refine ln rfl (by assumption) ?_) | fail)
  refine W.loop (α := Nat) (fun k => k ≤ S.loose.length) (fun k => [(3, .int .i64 ((S.loose.take k).map (·.n)).sum), (9, lv), (10, .int .i64 (S.loose.length : Int)), (11, .int .i64 (k : Int))]) (fun _ => [DBk d m lv, MBk m fs c, lh, fhp fs, R]) (fun k => S.loose.length - k) 0 (Nat.zero_le _) (by repeat (first | exact Fsub.nil | refine Fsub.cons rfl ?_)) (Hsub.of_picks inferInstance) ?_
  intro k hk
  by_cases hlt : k < S.loose.length
  · obtain ⟨p, hp⟩ : ∃ p, S.loose[k]? = some p := ⟨_, List.getElem?_eq_getElem hlt⟩
    obtain ⟨h1, h2⟩ := List.getElem?_eq_some_iff.1 hp
    have hsu : ((S.loose.take (k + 1)).map (·.n)).sum = ((S.loose.take k).map (·.n)).sum + p.n := by
      rw [List.take_succ_eq_append_getElem h1, h2]; simp
    have hb1 := hb (k + 1) (by omega)
    rw [hsu] at hb1
    repeat' (first | refine go ?_ | refine mv ?_ | (refine I.ld ?_; first | refine ld rfl ?_ | refine lF rfl (by assumption) ?_) | refine asg ?_ | (refine I.fa ?_; refine fa ?_) | (refine I.bin ?_; first | refine cm rfl rfl ?_ | refine ad ?_) | (refine I.cond ?_; refine cP ?_) | (refine I.ix ?_; refine ix rfl rfl ?_) | (refine I.st ?_; refine sG rfl rfl ?_) | refine al (fun _ => ?_) | fail)
    refine D.as 3 (.int .i64 ((S.loose.take (k + 1)).map (·.n)).sum) rfl (by rw [hsu]) ?_
    exact D.round (k + 1) (by omega) (by omega) (by repeat (first | exact Fsub.nil | refine Fsub.cons rfl ?_)) (Hsub.of_picks inferInstance)
  · obtain rfl : k = S.loose.length := by omega
    repeat' (first | refine go ?_ | refine mv ?_ | refine asg ?_ | (refine I.bin ?_; refine cm rfl rfl ?_) | (refine I.cond ?_; refine cN ?_) | fail)
    exact D.fin1 [DBk d m lv, MBk m fs c, lh, fhp fs] _ rfl rfl ⟨by rw [List.take_length]; rfl, rfl⟩

theorem clone_ct {xs : List UInt8} {v : Value} {h : Hp} (hs : Rs xs v h) (hl : xs.length ≤ 1099511627776) :
    Ct Tryz.prog 51 [v] [h] (fun r H' => ∃ h', IsSl 5 xs r h' ∧ H' = [h', h]) := by
  obtain ⟨p, c, rfl⟩ := hs.len
  refine Ct.mk' Tryz.func51 rfl rfl rfl (fun g R => ?_)
  try simp only [List.cons_append]
  simp only [List.nil_append]
  cases p with
  | none =>
    have hx : xs = [] := by
      obtain ⟨a, c', e, _, f⟩ := hs
      cases e
      cases xs with
      | nil => rfl
      | cons y r => obtain ⟨b, off, e, _⟩ := f 0 y rfl; cases e
    subst hx
    repeat' (first | refine go ?_ | refine mv ?_ | refine asg ?_ | (refine I.cond ?_; refine cT ?_) | (refine I.bin ?_; refine WX.eqlN rfl rfl rfl ?_) | fail)
    exact D.fin1 [[], h] _ rfl rfl ⟨_, IsSl.nil _, rfl⟩
  | some a =>
    repeat' (first | refine go ?_ | refine mv ?_ | refine asg ?_ | (refine I.cond ?_; refine cF ?_) | (refine I.bin ?_; refine WX.eqlN rfl rfl rfl ?_) | fail)
    refine I.bs ?_
    refine WX.lit (ys := ([] : List UInt8)) (vs := []) rfl rfl rfl rfl rfl rfl (by decide) rfl (fun v1 h1 hs1 => ?_)
    repeat' (first | refine mv ?_ | fail)
    refine WX.app rfl rfl hs1 hs rfl rfl (by decide) (by simp only [List.length_nil]; omega) rfl (fun v2 h2 hs2 => ?_)
    rw [List.nil_append] at hs2
    repeat' (first | refine go ?_ | refine asg ?_ | fail)
    exact D.fin1 [h2, h] _ rfl rfl ⟨_, hs2, rfl⟩

/-- Read. -/
def DkS.readB (S : DkS) (k : Int) : List UInt8 := match S.find k with
  | none => []
  | some f => f.b
theorem read_ct {S : DkS} {d : Nat} {h : Hp} (hd : IsDk S d h) (k : Int) (hl : (S.readB k).length ≤ 1099511627776) :
    Ct Tryz.prog 26 [.pointer (some ⟨d, 0, none⟩), .int .i64 k] [h] (fun r H' => ∃ u hb, r = .tuple #[u, .int .i64 (S.errE k)] ∧ H' = [h, hb] ∧ IsSl 5 (S.readB k) u hb) := by
  obtain ⟨m, c, lv, fs, lh, hd, rfl⟩ := hd
  unfold DkS.readB at hl ⊢
  cases hk : S.find k with
  | none =>
    obtain ⟨_, hv⟩ := hd.no hk
    refine Ct.pack (pre := [DBk d m lv, MBk m fs c, lh, fhp fs]) (post := fun r H' => r = .tuple #[.slice none 0 0, .int .i64 50] ∧ H' = [DBk d m lv, MBk m fs c, lh, fhp fs]) ?_ (by simp) (fun r H' p => ⟨[DBk d m lv ++ (MBk m fs c ++ (lh ++ fhp fs)), []], by rw [p.2]; simp, _, [], by rw [p.1, DkS.errE, hk]; rfl, rfl, IsSl.nil _⟩)
    refine Ct.mk' Tryz.func26 rfl rfl rfl (fun g R => ?_)
    try simp only [List.cons_append]
    simp only [List.nil_append]
    repeat' (first | refine go ?_ | refine mv ?_ | (refine I.ld ?_; refine ld rfl ?_) | refine asg ?_ | (refine I.fa ?_; refine fa ?_) | (refine I.nc ?_; refine nc ?_) | fail)
    refine WX.lookup rfl rfl rfl ?_
    rw [hv]
    repeat' (first | refine go ?_ | refine mv ?_ | refine asg ?_ | (refine I.bin ?_; refine np rfl rfl ?_) | (refine I.cond ?_; refine cT ?_) | fail)
    exact D.fin2 [DBk d m lv, MBk m fs c, lh, fhp fs] _ rfl rfl rfl ⟨rfl, rfl⟩
  | some x =>
    obtain ⟨f, pre, post, rfl, rfl, hn, hok, h1, h2, hv⟩ := hd.has hk
    have hr := IsSl.rs hok
    rw [hk] at hl
    have hl : f.b.length ≤ 1099511627776 := hl
    refine Ct.pack (pre := [DBk d m lv, MBk m (pre ++ f :: post) c, lh, fhp pre, FBk f.blk (.slice f.p f.l f.c) f.s, f.h, fhp post]) (post := fun r H' => ∃ u hb, r = .tuple #[u, .int .i64 0] ∧ H' = [DBk d m lv, MBk m (pre ++ f :: post) c, lh, fhp pre, FBk f.blk (.slice f.p f.l f.c) f.s, f.h, fhp post] ++ [hb] ∧ IsSl 5 f.b u hb) ?_ (by rw [fhp_split]; simp)
      (fun r H' ⟨u, hb, e1, e2, e3⟩ => ⟨[DBk d m lv ++ (MBk m (pre ++ f :: post) c ++ (lh ++ fhp (pre ++ f :: post))), hb], by rw [e2, fhp_split]; simp, u, hb, by rw [e1, DkS.errE, hk]; rfl, rfl, e3⟩)
    refine Ct.mk' Tryz.func26 rfl rfl rfl (fun g R => ?_)
    try simp only [List.cons_append]
    simp only [List.nil_append]
    repeat' (first | refine go ?_ | refine mv ?_ | (refine I.ld ?_; refine ld rfl ?_) | refine asg ?_ | (refine I.fa ?_; refine fa ?_) | (refine I.nc ?_; refine nc ?_) | fail)
    refine WX.lookup rfl rfl rfl ?_
    rw [hv]
    repeat' (first | refine go ?_ | refine mv ?_ | (refine I.ld ?_; refine ld rfl ?_) | refine asg ?_ | (refine I.fa ?_; refine fa ?_) | (refine I.nc ?_; refine nc ?_) | (refine I.bin ?_; refine np rfl rfl ?_) | (refine I.cond ?_; refine cF ?_) | fail)
    refine WX.call rfl (clone_ct hr hl) rfl ?_
    rintro u _ ⟨hb, hsb, rfl⟩
    simp only [List.cons_append, List.nil_append]
    repeat' (first | refine go ?_ | refine asg ?_ | fail)
    exact D.fin2 [DBk d m lv, MBk m (pre ++ f :: post) c, lh, fhp pre, FBk f.blk (.slice f.p f.l f.c) f.s, f.h, fhp post, hb] _ rfl rfl rfl ⟨_, _, rfl, rfl, hsb⟩

/-- Files that a range has come by, and the rest. -/
def Vis (fs vis : List Fl) : Prop := ∃ rest, (vis ++ rest).Perm fs
theorem Vis.start (fs : List Fl) : Vis fs [] := ⟨fs, List.Perm.refl _⟩
theorem Vis.mem {fs vis : List Fl} (h : Vis fs vis) : ∀ z ∈ vis.map Fl.me, z ∈ fs.map Fl.me := by
  obtain ⟨rest, hp⟩ := h
  intro z hz
  obtain ⟨f, hf, rfl⟩ := List.mem_map.1 hz
  exact List.mem_map.2 ⟨f, hp.mem_iff.1 (List.mem_append_left _ hf), rfl⟩
theorem Vis.le {fs vis : List Fl} (h : Vis fs vis) : vis.length ≤ fs.length := by
  obtain ⟨rest, hp⟩ := h
  have := hp.length_eq
  rw [List.length_append] at this
  omega
theorem Vis.done {fs vis : List Fl} {c : Nat} (h : Vis fs vis) (mp : MpOk (fs.map Fl.me) c) (ha : ∀ z ∈ fs.map Fl.me, z ∈ vis.map Fl.me) : vis.Perm fs := by
  obtain ⟨rest, hp⟩ := h
  have hn : ((vis ++ rest).map (fun f => f.me.k)).Nodup := by
    have h1 := mp.ks
    rw [List.map_map] at h1
    exact (hp.map _).nodup_iff.2 h1
  cases rest with
  | nil => simpa using hp
  | cons f r =>
    have hf : f.me ∈ vis.map Fl.me := ha _ (List.mem_map.2 ⟨f, hp.mem_iff.1 (by simp), rfl⟩)
    obtain ⟨f', hf', he⟩ := List.mem_map.1 hf
    rw [List.map_append, List.nodup_append] at hn
    exact absurd (congrArg Me.k he) (hn.2.2 _ (List.mem_map.2 ⟨f', hf', rfl⟩) _ (List.mem_map.2 ⟨f, by simp, rfl⟩))
theorem Vis.step {fs vis : List Fl} {f : Fl} (h : Vis fs vis) (hf : f ∈ fs) (hv : f.me ∉ vis.map Fl.me) : Vis fs (vis ++ [f]) ∧ vis.length < fs.length := by
  obtain ⟨rest, hp⟩ := h
  have h1 : f ∈ rest := by
    rcases List.mem_append.1 (hp.mem_iff.2 hf) with h | h
    · exact absurd (List.mem_map.2 ⟨f, h, rfl⟩) hv
    · exact h
  obtain ⟨a, b, rfl⟩ := List.append_of_mem h1
  refine ⟨⟨a ++ b, ?_⟩, ?_⟩
  · refine List.Perm.trans ?_ hp
    rw [List.append_assoc]
    exact List.Perm.append_left _ (by simpa using (List.perm_middle (a := f) (l₁ := a) (l₂ := b)).symm)
  · have := hp.length_eq
    simp at this
    omega
theorem sum_le_of_vis {fs vis : List Fl} (h : Vis fs vis) : (vis.map (·.b.length)).sum ≤ (fs.map (·.b.length)).sum := by
  obtain ⟨rest, hp⟩ := h
  rw [← (hp.map (·.b.length)).sum_nat, List.map_append, List.sum_append_nat]
  omega

theorem used_ct {S : DkS} {d : Nat} {h : Hp} (hd : IsDk S d h) (hu : S.used ≤ 1099511627776) :
    Ct Tryz.prog 46 [.pointer (some ⟨d, 0, none⟩)] [h] (fun r H' => r = .int .i64 (S.used : Int) ∧ H' = [h]) := by
  obtain ⟨m, c, lv, fs, lh, hd, rfl⟩ := hd
  have hus : S.used = (fs.map (·.b.length)).sum := by unfold DkS.used; rw [← hd.fs, used_sum]
  refine Ct.pack (pre := [DBk d m lv, MBk m fs c, lh, fhp fs]) (post := fun r H' => r = .int .i64 (S.used : Int) ∧ H' = [DBk d m lv, MBk m fs c, lh, fhp fs]) ?_ (by simp) (fun r H' p => ⟨[DBk d m lv ++ (MBk m fs c ++ (lh ++ fhp fs))], by rw [p.2]; simp, p.1, rfl⟩)
  refine Ct.mk' Tryz.func46 rfl rfl rfl (fun g R => ?_)
  try simp only [List.cons_append]
  simp only [List.nil_append]
  repeat' (first | refine go ?_ | refine mv ?_ | (refine I.ld ?_; refine ld rfl ?_) | refine asg ?_ | (refine I.fa ?_; refine fa ?_) | (refine I.nc ?_; refine nc ?_) | fail)
  refine WX.range rfl rfl (fun r => ?_)
  repeat' (first | refine go ?_ | fail)
  refine W.loop (α := List Fl) (fun vis => Vis fs vis) (fun vis => [(3, .int .i64 ((vis.map (·.b.length)).sum : Nat)), (10, .pointer (some ⟨r, 0, none⟩))]) (fun vis => [[(r, itob m c (vis.map Fl.me))], DBk d m lv, MBk m fs c, lh, fhp fs, R]) (fun vis => fs.length - vis.length) [] (Vis.start fs) (by repeat (first | exact Fsub.nil | refine Fsub.cons rfl ?_)) (by show Hsub _ [[(r, itob m c [])], DBk d m lv, MBk m fs c, lh, fhp fs, R]; exact (Hsub.of_picks inferInstance)) ?_
  intro vis hv
  repeat' (first | refine go ?_ | fail)
  refine WX.next rfl hd.mp hv.mem rfl (fun ha => ?_) (fun z hz hzv => ?_)
  · have hp := hv.done hd.mp ha
    repeat' (first | refine go ?_ | refine mv ?_ | refine asg ?_ | (refine I.cond ?_; refine cF ?_) | refine ex ?_ | fail)
    exact D.fin1 [DBk d m lv, MBk m fs c, lh, fhp fs] _ rfl rfl ⟨by rw [hus, (hp.map (·.b.length)).sum_nat], rfl⟩
  · obtain ⟨f, hf, rfl⟩ := List.mem_map.1 hz
    obtain ⟨hv2, hlt⟩ := hv.step hf hzv
    obtain ⟨pre, post, hfe⟩ := List.append_of_mem hf
    have hfh : fhp fs = fhp pre ++ (FBk f.blk (.slice f.p f.l f.c) f.s ++ (f.h ++ fhp post)) := by rw [hfe, fhp_split]
    have hr : Rs f.b (.slice f.p f.l f.c) f.h := (hd.ok f hf).rs
    have hsl := sum_le_of_vis hv2
    rw [← hus] at hsl
    have hsn : ((vis ++ [f]).map (·.b.length)).sum = (vis.map (·.b.length)).sum + f.b.length := by simp [List.sum_append_nat]
    refine WX.flat (H' := [[(r, itob m c (vis.map Fl.me ++ [f.me]))], DBk d m lv, MBk m fs c, lh, fhp pre, FBk f.blk (.slice f.p f.l f.c) f.s, f.h, fhp post, R]) (by simp [hfh]) ?_
    repeat' (first | refine go ?_ | (refine I.cond ?_; refine cT ?_) | refine ex ?_ | fail)
    refine WX.entry (vis := vis.map Fl.me) (z := f.me) rfl hd.mp (List.mem_map.2 ⟨f, hf, rfl⟩) rfl ?_
    repeat' (first | refine go ?_ | refine mv ?_ | (refine I.ld ?_; refine ld rfl ?_) | refine asg ?_ | (refine I.fa ?_; refine fa ?_) | (refine I.nc ?_; refine nc ?_) | (refine I.bin ?_; refine ad ?_) | (refine I.bi ?_; refine ln rfl (by assumption) ?_) | refine ex ?_ | fail)
    refine D.as 3 (.int .i64 (((vis ++ [f]).map (·.b.length)).sum : Nat)) rfl (by rw [hsn]; congr 1) ?_
    refine D.flat (H' := [[(r, itob m c ((vis ++ [f]).map Fl.me))], DBk d m lv, MBk m fs c, lh, fhp fs, R]) (by simp [hfh]) ?_
    exact D.round (vis ++ [f]) hv2 (by simp only [List.length_append, List.length_cons, List.length_nil]; omega) (by repeat (first | exact Fsub.nil | refine Fsub.cons rfl ?_)) (Hsub.of_picks inferInstance)

theorem sortL_perm {xs ys : List Int} (h : xs.Perm ys) : sortL xs = sortL ys := by
  have ht : ∀ a b c : Int, decide (a ≤ b) = true → decide (b ≤ c) = true → decide (a ≤ c) = true := fun a b c h1 h2 => by simp at *; omega
  have hto : ∀ a b : Int, (decide (a ≤ b) || decide (b ≤ a)) = true := fun a b => by simp; omega
  refine List.Perm.eq_of_pairwise (le := fun a b => decide (a ≤ b) = true) ?_ (List.pairwise_mergeSort ht hto xs) (List.pairwise_mergeSort ht hto ys) ?_
  · intro a b _ _ h1 h2
    simp at h1 h2; omega
  · exact (List.mergeSort_perm xs _).trans (h.trans (List.mergeSort_perm ys _).symm)
theorem files_ct {S : DkS} {d : Nat} {h : Hp} (hd : IsDk S d h) (hl : S.fs.length ≤ 1099511627776) :
    Ct Tryz.prog 25 [.pointer (some ⟨d, 0, none⟩)] [h] (fun r H' => ∃ hb, H' = [h, hb] ∧ IsSl 3 S.names r hb) := by
  obtain ⟨m, c, lv, fs, lh, hd, rfl⟩ := hd
  have hlen := hd.len
  refine Ct.pack (pre := [DBk d m lv, MBk m fs c, lh, fhp fs]) (post := fun r H' => ∃ hb, H' = [DBk d m lv, MBk m fs c, lh, fhp fs, hb] ∧ IsSl 3 S.names r hb) ?_ (by simp) (fun r H' ⟨hb, e, p⟩ => ⟨[DBk d m lv ++ (MBk m fs c ++ (lh ++ fhp fs)), hb], by rw [e]; simp, hb, rfl, p⟩)
  refine Ct.mk' Tryz.func25 rfl rfl rfl (fun g R => ?_)
  try simp only [List.cons_append]
  simp only [List.nil_append]
  repeat' (first | refine go ?_ | refine mv ?_ | (refine I.ld ?_; refine ld rfl ?_) | refine asg ?_ | (refine I.fa ?_; refine fa ?_) | (refine I.nc ?_; refine nc ?_) | fail)
  refine WX.range rfl rfl (fun r => ?_)
  repeat' (first | refine go ?_ | fail)
  refine W.flat (H' := [[(r, itob m c [])], DBk d m lv, MBk m fs c, lh, fhp fs, [], R]) (by simp) ?_
  refine W.loop (α := List Fl × Value × Hp) (fun x => Vis fs x.1 ∧ IsSl 3 (x.1.map (·.n)) x.2.1 x.2.2) (fun x => [(3, x.2.1), (9, .pointer (some ⟨r, 0, none⟩))]) (fun x => [[(r, itob m c (x.1.map Fl.me))], DBk d m lv, MBk m fs c, lh, fhp fs, x.2.2, R]) (fun x => fs.length - x.1.length)
    ([], .slice none 0 0, []) ⟨Vis.start fs, IsSl.nil _⟩ (by repeat (first | exact Fsub.nil | refine Fsub.cons rfl ?_)) (by show Hsub _ [[(r, itob m c [])], DBk d m lv, MBk m fs c, lh, fhp fs, [], R]; exact (Hsub.of_picks inferInstance)) ?_
  rintro ⟨vis, u, hu⟩ ⟨hv, hs⟩
  simp only [] at hv hs ⊢
  have hvl := hv.le
  repeat' (first | refine go ?_ | fail)
  refine WX.next rfl hd.mp hv.mem rfl (fun ha => ?_) (fun z hz hzv => ?_)
  · have hp := hv.done hd.mp ha
    have hnm : sortL (vis.map (·.n)) = S.names := by
      unfold DkS.names
      rw [← hd.fs, List.map_map]
      exact sortL_perm (hp.map _)
    repeat' (first | refine go ?_ | refine mv ?_ | (refine I.cond ?_; refine cF ?_) | refine ex ?_ | fail)
    refine WX.call rfl (sort_ct hs (by rw [List.length_map]; omega)) rfl ?_
    rintro _ _ ⟨rfl, h', rfl, hs'⟩
    rw [hnm] at hs'
    simp only [List.cons_append, List.nil_append]
    repeat' (first | refine go ?_ | refine mv ?_ | refine asg ?_ | fail)
    exact D.fin1 [DBk d m lv, MBk m fs c, lh, fhp fs, h'] _ rfl rfl ⟨_, rfl, hs'⟩
  · obtain ⟨f, hf, rfl⟩ := List.mem_map.1 hz
    obtain ⟨hv2, hlt⟩ := hv.step hf hzv
    repeat' (first | refine go ?_ | (refine I.cond ?_; refine cT ?_) | refine ex ?_ | fail)
    refine WX.entry (vis := vis.map Fl.me) (z := f.me) rfl hd.mp (List.mem_map.2 ⟨f, hf, rfl⟩) rfl ?_
    repeat' (first | refine go ?_ | refine mv ?_ | refine asg ?_ | refine ex ?_ | fail)
    refine I.bs ?_
    refine WX.lit (ys := [f.n]) rfl rfl rfl rfl rfl rfl (by decide) rfl (fun v1 h1 hs1 => ?_)
    refine WX.app rfl rfl hs hs1.rs rfl rfl (by decide) (by rw [List.length_map]; simp only [List.length_cons, List.length_nil]; omega) rfl (fun v2 h2 hs2 => ?_)
    repeat' (first | refine go ?_ | refine asg ?_ | fail)
    have hmm : vis.map Fl.me ++ [f.me] = (vis ++ [f]).map Fl.me := by simp
    rw [hmm]
    refine D.round (vis ++ [f], v2, h2) ⟨hv2, by simpa using hs2⟩ (by simp only [List.length_append, List.length_cons, List.length_nil]; omega) (by repeat (first | exact Fsub.nil | refine Fsub.cons rfl ?_)) (Hsub.of_picks inferInstance)
end Go.Proofs.YtihaajncebdioaaGreat

/-
  The disk's calls that turn it: pieces taken away, Sync, Remove.
-/
set_option linter.unusedVariables false
set_option linter.unusedSimpArgs false
namespace Go.Proofs.YtihaajncebdioaaGreat
open Go Go.Sl

abbrev NumBk (nb : Nat) (k : Int) : Hp := [(nb, .cells (List.toArray [.int .i64 k]) 3 (0, 0))]
def delV (nb : Nat) : Value := .func (.func 74) (List.toArray []) (List.toArray [.pointer (some ⟨nb, 0, none⟩)])
def keepP (k : Int) (p : Pc) : Bool := decide (p.f ≠ k)
theorem isFile_ct (nb : Nat) (k : Int) (p : Pc) : Ct Tryz.prog 74 [.agg (Enc.enc p).toArray, .pointer (some ⟨nb, 0, none⟩)] [NumBk nb k] (fun r H' => r = .bool (decide (p.f = k)) ∧ H' = [NumBk nb k]) := by
  refine Ct.mk' Tryz.func74 rfl rfl rfl (fun g R => ?_)
  try simp only [List.cons_append]
  simp only [List.nil_append]
  repeat' (first | refine go ?_ | (refine I.ld ?_; refine ld rfl ?_) | refine asg ?_ | (refine I.fa ?_; refine fa ?_) | (refine I.bin ?_; refine cm rfl rfl ?_) | refine bx rfl (fun _ => ?_) | fail)
  exact D.fin1 [NumBk nb k] _ rfl rfl ⟨rfl, rfl⟩

theorem indexF_ct {ps : List Pc} {v : Value} {h : Hp} (hs : Rs ps v h) (nb : Nat) (k : Int) (hl : ps.length ≤ 1099511627776) :
    Ct Tryz.prog 103 [v, delV nb] [h, NumBk nb k] (fun r H' => r = (match ps.findIdx? (fun p => decide (p.f = k)) with | none => .int .i64 (-1) | some i => .int .i64 (i : Int)) ∧ H' = [h, NumBk nb k]) := by
  refine Ct.mk' Tryz.func103 rfl rfl rfl (fun g R => ?_)
  try simp only [List.cons_append]
  simp only [List.nil_append]
  repeat' (first | refine go ?_ | refine mv ?_ | refine asg ?_ | (refine I.bi ?_; refine ln rfl (by assumption) ?_) | fail)
  refine W.loop (α := Nat) (fun j => j ≤ ps.length ∧ ∀ i p, i < j → ps[i]? = some p → ¬ p.f = k) (fun j => [(0, v), (1, delV nb), (7, .int .i64 (ps.length : Int)), (8, .int .i64 (j : Int))]) (fun _ => [h, NumBk nb k, R]) (fun j => ps.length - j) 0 ⟨Nat.zero_le _, fun i p h => absurd h (by omega)⟩ (by repeat (first | exact Fsub.nil | refine Fsub.cons rfl ?_)) (Hsub.of_picks inferInstance) ?_
  rintro j ⟨hj, hall⟩
  by_cases hlt : j < ps.length
  · obtain ⟨p, hp⟩ : ∃ p, ps[j]? = some p := ⟨_, List.getElem?_eq_getElem hlt⟩
    repeat' (first | refine go ?_ | refine mv ?_ | (refine I.ld ?_; refine lF rfl (by assumption) ?_) | refine asg ?_ | (refine I.bin ?_; refine cm rfl rfl ?_) | (refine I.cond ?_; refine cP ?_) | (refine I.ix ?_; refine ix rfl rfl ?_) | fail)
    refine WX.callV rfl rfl (isFile_ct nb k p) rfl ?_
    rintro _ _ ⟨rfl, rfl⟩
    by_cases hpk : p.f = k
    · simp only [List.cons_append, List.nil_append]
      repeat' (first | refine go ?_ | refine mv ?_ | refine asg ?_ | (refine I.cond ?_; refine cP ?_) | fail)
      have hf : ps.findIdx? (fun p => decide (p.f = k)) = some j := by
        rw [List.findIdx?_eq_some_iff_getElem]
        obtain ⟨h1, h2⟩ := List.getElem?_eq_some_iff.1 hp
        refine ⟨h1, by rw [h2]; simpa using hpk, fun i hi => ?_⟩
        have := hall i _ hi (List.getElem?_eq_getElem (by omega))
        simpa using this
      exact D.fin1 [h, NumBk nb k] _ rfl rfl ⟨by rw [hf], rfl⟩
    · simp only [List.cons_append, List.nil_append]
      repeat' (first | refine go ?_ | refine mv ?_ | (refine I.bin ?_; refine ad ?_) | (refine I.cond ?_; refine cN ?_) | fail)
      refine D.round (j + 1) ⟨by omega, fun i p' hi hp' => ?_⟩ (by omega) (by repeat (first | exact Fsub.nil | refine Fsub.cons rfl ?_)) (Hsub.of_picks inferInstance)
      rcases Nat.lt_or_ge i j with h | h
      · exact hall i p' h hp'
      · obtain rfl : i = j := by omega
        rw [hp] at hp'
        cases hp'
        exact hpk
  · have hf : ps.findIdx? (fun p => decide (p.f = k)) = none := by
      rw [List.findIdx?_eq_none_iff]
      intro x hx
      obtain ⟨i, hi⟩ := List.mem_iff_getElem?.1 hx
      have hlt := (List.getElem?_eq_some_iff.1 hi).1
      simpa using hall i x (by omega) hi
    repeat' (first | refine go ?_ | refine asg ?_ | (refine I.bin ?_; refine cm rfl rfl ?_) | (refine I.cond ?_; refine cN ?_) | fail)
    exact D.fin1 [h, NumBk nb k] _ rfl rfl ⟨by rw [hf], rfl⟩

/-- What DeleteFunc keeps of the first j. -/
def kept (k : Int) (ps : List Pc) (j : Nat) : List Pc := (ps.take j).filter (keepP k)
theorem kept_le (k : Int) (ps : List Pc) (j : Nat) : (kept k ps j).length ≤ j := by
  unfold kept
  have := List.length_filter_le (keepP k) (ps.take j)
  rw [List.length_take] at this
  omega
theorem kept_succ {k : Int} {ps : List Pc} {j : Nat} {p : Pc} (h : ps[j]? = some p) : kept k ps (j + 1) = kept k ps j ++ (if p.f = k then [] else [p]) := by
  obtain ⟨h1, h2⟩ := List.getElem?_eq_some_iff.1 h
  unfold kept
  rw [List.take_succ_eq_append_getElem h1, h2, List.filter_append]
  congr 1
  by_cases hp : p.f = k
  · simp [keepP, hp]
  · simp [keepP, hp]
structure DelI (k : Int) (ps : List Pc) (j : Nat) (l : List Pc) : Prop where
  len : l.length = ps.length
  lt : (kept k ps j).length < j
  pre : l.take (kept k ps j).length = kept k ps j
  post : ∀ i, j ≤ i → l[i]? = ps[i]?

set_option maxHeartbeats 1000000 in
theorem deleteF_ct {ps : List Pc} {v : Value} {h : Hp} (hs : IsSl 87 ps v h) (nb : Nat) (k : Int) (hl : ps.length ≤ 1099511627776) :
    Ct Tryz.prog 73 [v, delV nb] [h, NumBk nb k] (fun r H' => ∃ h', H' = [h', NumBk nb k] ∧ IsSl 87 (ps.filter (keepP k)) r h') := by
  have hix := indexF_ct hs.rs nb k hl
  have hr0 := hs.rs
  cases hf : ps.findIdx? (fun p => decide (p.f = k)) with
  | none =>
    rw [hf] at hix
    have hall : ps.filter (keepP k) = ps := by
      rw [List.filter_eq_self]
      rw [List.findIdx?_eq_none_iff] at hf
      intro p hp
      have := hf p hp
      simpa [keepP] using this
    rw [hall]
    refine Ct.mk' Tryz.func73 rfl rfl rfl (fun g R => ?_)
    try simp only [List.cons_append]
    simp only [List.nil_append]
    repeat' (first | refine go ?_ | refine mv ?_ | refine asg ?_ | fail)
    refine WX.callQ rfl hix rfl ?_
    repeat' (first | refine go ?_ | refine mv ?_ | refine asg ?_ | (refine I.bin ?_; refine cm rfl rfl ?_) | (refine I.cond ?_; refine cT ?_) | fail)
    exact D.fin1 [h, NumBk nb k] _ rfl rfl ⟨_, rfl, hs⟩
  | some i0 =>
    rw [hf] at hix
    simp only [] at hix
    rw [List.findIdx?_eq_some_iff_getElem] at hf
    obtain ⟨hi0, hik, hib⟩ := hf
    have hk0 : kept k ps i0 = ps.take i0 := by
      unfold kept
      rw [List.filter_eq_self]
      intro p hp
      obtain ⟨j, hj, he⟩ := List.mem_take_iff_getElem.1 hp
      have := hib j (by omega)
      rw [he] at this
      simpa [keepP] using this
    have hk1 : kept k ps (i0 + 1) = ps.take i0 := by
      rw [kept_succ (List.getElem?_eq_getElem hi0), hk0, if_pos (by simpa using hik), List.append_nil]
    have hkl : (kept k ps (i0 + 1)).length = i0 := by rw [hk1, List.length_take]; omega
    refine Ct.mk' Tryz.func73 rfl rfl rfl (fun g R => ?_)
    try simp only [List.cons_append]
    simp only [List.nil_append]
    repeat' (first | refine go ?_ | refine mv ?_ | refine asg ?_ | fail)
    refine WX.callQ rfl hix rfl ?_
    repeat' (first | refine go ?_ | refine mv ?_ | refine asg ?_ | (refine I.bin ?_; first | refine cm rfl rfl ?_ | refine ad ?_) | (refine I.cond ?_; refine cF ?_) | fail)
    refine W.as 5 (.int .i64 ((kept k ps (i0 + 1)).length : Int)) rfl (by rw [hkl]) ?_
    refine W.as 6 (.int .i64 ((i0 + 1 : Nat) : Int)) rfl (by congr 1) ?_
    refine W.loop (α := Nat × List Pc × Hp) (fun x => x.1 ≤ ps.length ∧ DelI k ps x.1 x.2.1 ∧ IsSl 87 x.2.1 v x.2.2) (fun x => [(0, v), (1, delV nb), (5, .int .i64 ((kept k ps x.1).length : Int)), (6, .int .i64 (x.1 : Int))]) (fun x => [x.2.2, NumBk nb k, R]) (fun x => ps.length - x.1)
      (i0 + 1, ps, h) ⟨by simp only []; omega, ⟨rfl, by rw [hkl]; omega, by rw [hkl, hk1], fun _ _ => rfl⟩, hs⟩ (by repeat (first | exact Fsub.nil | refine Fsub.cons rfl ?_)) (Hsub.of_picks inferInstance) ?_
    clear hr0
    rintro ⟨j, l, h2⟩ ⟨hj, hI, hsl⟩
    simp only [] at hj hI hsl ⊢
    have hrl := hsl.rs
    have hll := hI.len
    have hkj := hI.lt
    by_cases hlt : j < ps.length
    · obtain ⟨p, hp⟩ : ∃ p, ps[j]? = some p := ⟨_, List.getElem?_eq_getElem hlt⟩
      have hlp : l[j]? = some p := by rw [hI.post j (Nat.le_refl _), hp]
      have hks := kept_succ (k := k) hp
      repeat' (first | refine go ?_ | refine mv ?_ | (refine I.ld ?_; first | refine lA rfl ?_ | refine lF rfl (by assumption) ?_) | (refine I.bin ?_; refine cm rfl rfl ?_) | (refine I.cond ?_; refine cP ?_) | (refine I.bi ?_; refine ln rfl (by assumption) ?_) | (refine I.ix ?_; refine ix rfl rfl ?_) | (refine I.st ?_; refine sG rfl rfl ?_) | refine al (fun _ => ?_) | fail)
      refine WX.callV rfl rfl (isFile_ct nb k p) rfl ?_
      rintro _ _ ⟨rfl, rfl⟩
      by_cases hpk : p.f = k
      · rw [if_pos hpk, List.append_nil] at hks
        simp only [List.cons_append, List.nil_append]
        repeat' (first | refine go ?_ | refine mv ?_ | refine asg ?_ | (refine I.bin ?_; refine ad ?_) | (refine I.cond ?_; refine cN ?_) | (refine I.un ?_; refine nD ?_) | fail)
        refine D.as 5 (.int .i64 ((kept k ps (j + 1)).length : Int)) rfl (by rw [hks]) ?_
        refine D.round (j + 1, l, h2) ⟨by simp only []; omega, ⟨hll, by rw [hks]; omega, by rw [hks]; exact hI.pre, fun i hi => hI.post i (by omega)⟩, hsl⟩ (by simp only []; omega) (by repeat (first | exact Fsub.nil | refine Fsub.cons rfl ?_)) (Hsub.of_picks inferInstance)
      · rw [if_neg hpk] at hks
        obtain ⟨y, hy⟩ : ∃ y, l[(kept k ps j).length]? = some y := ⟨_, List.getElem?_eq_getElem (by omega)⟩
        simp only [List.cons_append, List.nil_append]
        repeat' (first | refine go ?_ | refine mv ?_ | (refine I.ld ?_; refine lA rfl ?_) | (refine I.cond ?_; refine cP ?_) | (refine I.ix ?_; refine ix rfl rfl ?_) | (refine I.un ?_; refine nD ?_) | fail)
        refine WX.storeE (y' := p) (vs := Enc.enc p) rfl rfl rfl hsl hy rfl rfl rfl (setAt_whole rfl) rfl (fun h3 hs3 => ?_)
        repeat' (first | refine go ?_ | refine mv ?_ | refine asg ?_ | (refine I.bin ?_; refine ad ?_) | fail)
        refine D.as 5 (.int .i64 ((kept k ps (j + 1)).length : Int)) rfl (by rw [hks, List.length_append]; congr 1) ?_
        refine D.round (j + 1, l.set (kept k ps j).length p, h3) ⟨by simp only []; omega, ⟨by simp [hll], by rw [hks, List.length_append]; simp only [List.length_cons, List.length_nil]; omega, ?_, fun i hi => ?_⟩, hs3⟩ (by simp only []; omega) (by repeat (first | exact Fsub.nil | refine Fsub.cons rfl ?_)) (Hsub.of_picks inferInstance)
        · rw [hks, List.length_append]
          simp only [List.length_cons, List.length_nil, Nat.zero_add]
          rw [List.take_succ_eq_append_getElem (by simp; omega), List.take_set_of_le (Nat.le_refl _), hI.pre]
          simp
        · simp only [] at hi
          rw [List.getElem?_set_ne (by omega)]
          exact hI.post i (by omega)
    · obtain rfl : j = ps.length := by omega
      have hkf : kept k ps ps.length = ps.filter (keepP k) := by unfold kept; rw [List.take_length]
      obtain ⟨b, cap, sp, fr, rfl, rfl, g1, g2, g3⟩ := hsl.ne (by omega)
      have hz : Enc.sz Pc = 2 := rfl
      have hpre := hI.pre
      clear hI
      generalize hK : kept k ps ps.length = K at *
      have hcs : encs l ++ sp = encs K ++ (encs (l.drop K.length) ++ sp) := by
        conv => lhs; rw [← List.take_append_drop K.length l, hpre, encs_append, List.append_assoc]
      repeat' (first | refine go ?_ | refine mv ?_ | (refine I.bin ?_; refine cm rfl rfl ?_) | (refine I.cond ?_; refine cN ?_) | (refine I.bi ?_; refine ln rfl (by assumption) ?_) | fail)
      refine I.sl ?_
      refine WX.cutFrom (lo := K.length) rfl rfl (by omega) g1 rfl ?_
      rw [slCut_eq, if_neg (by omega)]
      simp only [Option.map_some, add_none, Nat.zero_add]
      have hel : (encs K).length = K.length * 2 := by rw [encs_len, hz]
      have hsl2 : (encs (l.drop K.length) ++ sp).length = (cap - K.length) * 2 := by
        rw [List.length_append, encs_len, List.length_drop, g2, hz]; omega
      have hcl : (encs l ++ sp).length = cap * 2 := by rw [hcs, List.length_append, hel, hsl2]; omega
      refine I.biN ?_
      refine WX.clearB rfl (by rw [hcl]; exact g3) (by omega) (by rw [hcl]; simp only [List.length_cons, List.length_nil]; omega) rfl ?_
      rw [hcs, show K.length * 2 = (encs K).length + 0 by rw [hel]; rfl, setAt_append_right]
      generalize hsp : setAt (encs (List.drop K.length l) ++ sp) 0 _ = sp'
      repeat' (first | refine go ?_ | refine mv ?_ | refine asg ?_ | refine sl rfl rfl (by assumption) ?_ | fail)
      refine D.fin1 [[(b, .cells (List.toArray (encs K ++ sp')) 87 fr)], NumBk nb k] _ rfl rfl ⟨_, rfl, .inr ⟨b, cap, sp', fr, ?_, ?_, ?_, ?_, g3⟩⟩
      · rw [← hkf]; rfl
      · rw [← hkf]
      · rw [← hkf]; omega
      · rw [← hsp, setAt_len, hsl2, ← hkf, hz]
end Go.Proofs.YtihaajncebdioaaGreat

/-
  The disk's calls that turn it: Sync, Remove, Append.
-/
set_option linter.unusedVariables false
set_option linter.unusedSimpArgs false
namespace Go.Proofs.YtihaajncebdioaaGreat
open Go Go.Sl

theorem forget_ct {ps : List Pc} {lv : Value} {lh : Hp} (hs : IsSl 87 ps lv lh) (d m : Nat) (k : Int) (hl : ps.length ≤ 1099511627776) :
    Ct Tryz.prog 55 [.pointer (some ⟨d, 0, none⟩), .int .i64 k] [DBk d m lv, lh] (fun r H' => ∃ lv' lh', r = .tuple #[] ∧ H' = [DBk d m lv', lh'] ∧ IsSl 87 (ps.filter (keepP k)) lv' lh') := by
  refine Ct.mk' Tryz.func55 rfl rfl rfl (fun g R => ?_)
  try simp only [List.cons_append]
  simp only [List.nil_append]
  repeat' (first | refine go ?_ | refine mv ?_ | (refine I.ld ?_; refine ld rfl ?_) | (refine I.fa ?_; refine fa ?_) | (refine I.nc ?_; refine nc ?_) | refine bx rfl (fun _ => ?_) | (refine WX.makeFunc (first := []) rfl rfl rfl ?_) | fail)
  rename_i nb
  refine WX.call rfl (deleteF_ct hs nb k hl) rfl ?_
  rintro r _ ⟨h', rfl, hs'⟩
  obtain ⟨p', n', c', rfl⟩ := hs'.sh
  simp only [List.cons_append, List.nil_append]
  repeat' (first | refine go ?_ | (refine I.fa ?_; refine fa ?_) | (refine I.nc ?_; refine nc ?_) | (refine I.st ?_; refine st rfl rfl ?_) | fail)
  exact D.finE [DBk d m (.slice p' n' c'), h'] _ rfl ⟨_, _, rfl, rfl, hs'⟩

theorem onF_eq {pre post : List Fl} {f f' : Fl} {k : Int} {g : FileP → FileP} (h1 : ∀ x ∈ pre, x.n ≠ k) (h2 : ∀ x ∈ post, x.n ≠ k) (hn : f.n = k) (hg : g f.file = f'.file) :
    ((pre ++ f :: post).map Fl.file).map (fun x => if x.n = k then g x else x) = (pre ++ f' :: post).map Fl.file := by
  have hid : ∀ (l : List Fl), (∀ x ∈ l, x.n ≠ k) → (l.map Fl.file).map (fun x => if x.n = k then g x else x) = l.map Fl.file := by
    intro l hl
    rw [List.map_map]
    apply List.map_congr_left
    intro x hx
    have : ¬ x.file.n = k := hl x hx
    simp [this]
  rw [List.map_append, List.map_append, hid pre h1, List.map_cons, List.map_cons, hid post h2, List.map_append, List.map_cons]
  have : f.file.n = k := hn
  rw [if_pos this, hg]
theorem filt_eq {pre post : List Fl} {f : Fl} {k : Int} (h1 : ∀ x ∈ pre, x.n ≠ k) (h2 : ∀ x ∈ post, x.n ≠ k) (hn : f.n = k) :
    ((pre ++ f :: post).map Fl.file).filter (fun x => decide (x.n ≠ k)) = (pre ++ post).map Fl.file ∧ ((pre ++ f :: post).map Fl.me).filter (fun x => decide (x.k ≠ k)) = (pre ++ post).map Fl.me := by
  have e1 : ∀ (l : List Fl), (∀ x ∈ l, x.n ≠ k) → (l.map Fl.file).filter (fun x => decide (x.n ≠ k)) = l.map Fl.file := by
    intro l hl
    rw [List.filter_eq_self]
    intro x hx
    obtain ⟨y, hy, rfl⟩ := List.mem_map.1 hx
    exact decide_eq_true (hl y hy)
  have e2 : ∀ (l : List Fl), (∀ x ∈ l, x.n ≠ k) → (l.map Fl.me).filter (fun x => decide (x.k ≠ k)) = l.map Fl.me := by
    intro l hl
    rw [List.filter_eq_self]
    intro x hx
    obtain ⟨y, hy, rfl⟩ := List.mem_map.1 hx
    exact decide_eq_true (hl y hy)
  constructor
  · rw [List.map_append, List.filter_append, e1 pre h1, List.map_cons, List.filter_cons, if_neg (by simp [Fl.file, hn]), e1 post h2, List.map_append]
  · rw [List.map_append, List.filter_append, e2 pre h1, List.map_cons, List.filter_cons, if_neg (by simp [Fl.me, hn]), e2 post h2, List.map_append]

theorem dsync_ct {S : DkS} {d : Nat} {h : Hp} (hd : IsDk S d h) (k : Int) (hll : S.loose.length ≤ 1099511627776) :
    Ct Tryz.prog 34 [.pointer (some ⟨d, 0, none⟩), .int .i64 k] [h] (fun r H' => ∃ h', r = .int .i64 (S.errE k) ∧ H' = [h'] ∧ IsDk (S.sync k) d h') := by
  obtain ⟨m, c, lv, fs, lh, hd, rfl⟩ := hd
  cases hk : S.find k with
  | none =>
    obtain ⟨_, hv⟩ := hd.no hk
    have hE : S.errE k = 50 := by simp [DkS.errE, hk]
    have hS : S.sync k = S := by simp [DkS.sync, hk]
    rw [hE, hS]
    refine Ct.pack (pre := [DBk d m lv, MBk m fs c, lh, fhp fs]) (post := fun r H' => r = .int .i64 50 ∧ H' = [DBk d m lv, MBk m fs c, lh, fhp fs]) ?_ (by simp) (fun r H' p => ⟨[DBk d m lv ++ (MBk m fs c ++ (lh ++ fhp fs))], by rw [p.2]; simp, _, p.1, rfl, m, c, lv, fs, lh, hd, rfl⟩)
    refine Ct.mk' Tryz.func34 rfl rfl rfl (fun g R => ?_)
    try simp only [List.cons_append]
    simp only [List.nil_append]
    repeat' (first | refine go ?_ | refine mv ?_ | (refine I.ld ?_; refine ld rfl ?_) | refine asg ?_ | (refine I.fa ?_; refine fa ?_) | (refine I.nc ?_; refine nc ?_) | fail)
    refine WX.lookup rfl rfl rfl ?_
    rw [hv]
    repeat' (first | refine go ?_ | refine mv ?_ | refine asg ?_ | (refine I.bin ?_; refine np rfl rfl ?_) | (refine I.cond ?_; refine cT ?_) | fail)
    exact D.fin1 [DBk d m lv, MBk m fs c, lh, fhp fs] _ rfl rfl ⟨rfl, rfl⟩
  | some x =>
    obtain ⟨f, pre, post, rfl, rfl, hn, hok, h1, h2, hv⟩ := hd.has hk
    have hr := IsSl.rs hok
    have hE : S.errE k = 0 := by simp [DkS.errE, hk]
    obtain ⟨f', hf'⟩ : ∃ f' : Fl, f' = { f with s := f.b.length } := ⟨_, rfl⟩
    have hS : S.sync k = { fs := (pre ++ f' :: post).map Fl.file, loose := S.loose.filter (keepP k) } := by
      have : S.onF k (fun f => { f with s := f.b.length }) = (pre ++ f' :: post).map Fl.file := by
        unfold DkS.onF; rw [← hd.fs]; exact onF_eq h1 h2 hn (by rw [hf']; rfl)
      simp only [DkS.sync, hk, Option.isNone_some, Bool.false_eq_true, if_false, this]
      rfl
    have hme : (pre ++ f' :: post).map Fl.me = (pre ++ f :: post).map Fl.me := by rw [hf']; simp [Fl.me]
    have hMB : MBk m (pre ++ f' :: post) c = MBk m (pre ++ f :: post) c := by unfold MBk; rw [hme]
    rw [hE, hS]
    refine Ct.pack (pre := [DBk d m lv, MBk m (pre ++ f :: post) c, lh, fhp pre, FBk f.blk (.slice f.p f.l f.c) f.s, f.h, fhp post]) (post := fun r H' => ∃ lv' lh', r = .int .i64 0 ∧ H' = [DBk d m lv', MBk m (pre ++ f :: post) c, lh', fhp pre, FBk f.blk (.slice f.p f.l f.c) f.b.length, f.h, fhp post] ∧ IsSl 87 (S.loose.filter (keepP k)) lv' lh') ?_ (by rw [fhp_split]; simp)
      (fun r H' ⟨lv', lh', e1, e2, e3⟩ => ⟨[DBk d m lv' ++ (MBk m (pre ++ f' :: post) c ++ (lh' ++ fhp (pre ++ f' :: post)))], by rw [e2, fhp_split, hMB, hf']; simp, _, e1, rfl, m, c, lv', _, lh', ⟨by rw [hme]; exact hd.mp, fun x hx => ?_, rfl, e3⟩, rfl⟩)
    · refine Ct.mk' Tryz.func34 rfl rfl rfl (fun g R => ?_)
      try simp only [List.cons_append]
      simp only [List.nil_append]
      repeat' (first | refine go ?_ | refine mv ?_ | (refine I.ld ?_; refine ld rfl ?_) | refine asg ?_ | (refine I.fa ?_; refine fa ?_) | (refine I.nc ?_; refine nc ?_) | fail)
      refine WX.lookup rfl rfl rfl ?_
      rw [hv]
      repeat' (first | refine go ?_ | refine mv ?_ | (refine I.ld ?_; refine ld rfl ?_) | refine asg ?_ | (refine I.fa ?_; refine fa ?_) | (refine I.nc ?_; refine nc ?_) | (refine I.bin ?_; refine np rfl rfl ?_) | (refine I.cond ?_; refine cF ?_) | (refine I.bi ?_; refine ln rfl (by assumption) ?_) | (refine I.st ?_; refine st rfl rfl ?_) | fail)
      refine WX.call rfl (forget_ct hd.sl d m k hll) rfl ?_
      rintro _ _ ⟨lv', lh', rfl, rfl, hs'⟩
      simp only [List.cons_append, List.nil_append]
      repeat' (first | refine go ?_ | refine asg ?_ | fail)
      exact D.fin1 [DBk d m lv', MBk m (pre ++ f :: post) c, lh', fhp pre, FBk f.blk (.slice f.p f.l f.c) f.b.length, f.h, fhp post] _ rfl rfl ⟨_, _, rfl, rfl, hs'⟩
    · rcases List.mem_append.1 hx with hx | hx
      · exact hd.ok x (List.mem_append_left _ hx)
      · rcases List.mem_cons.1 hx with rfl | hx
        · rw [hf']; exact hok
        · exact hd.ok x (List.mem_append_right _ (List.mem_cons_of_mem _ hx))

theorem dremove_ct {S : DkS} {d : Nat} {h : Hp} (hd : IsDk S d h) (k : Int) (hll : S.loose.length ≤ 1099511627776) :
    Ct Tryz.prog 30 [.pointer (some ⟨d, 0, none⟩), .int .i64 k] [h] (fun r H' => ∃ h', r = .int .i64 (S.errE k) ∧ H' = [h'] ∧ IsDk (S.remove k) d h') := by
  obtain ⟨m, c, lv, fs, lh, hd, rfl⟩ := hd
  cases hk : S.find k with
  | none =>
    obtain ⟨_, hv⟩ := hd.no hk
    have hE : S.errE k = 50 := by simp [DkS.errE, hk]
    have hS : S.remove k = S := by simp [DkS.remove, hk]
    rw [hE, hS]
    refine Ct.pack (pre := [DBk d m lv, MBk m fs c, lh, fhp fs]) (post := fun r H' => r = .int .i64 50 ∧ H' = [DBk d m lv, MBk m fs c, lh, fhp fs]) ?_ (by simp) (fun r H' p => ⟨[DBk d m lv ++ (MBk m fs c ++ (lh ++ fhp fs))], by rw [p.2]; simp, _, p.1, rfl, m, c, lv, fs, lh, hd, rfl⟩)
    refine Ct.mk' Tryz.func30 rfl rfl rfl (fun g R => ?_)
    try simp only [List.cons_append]
    simp only [List.nil_append]
    repeat' (first | refine go ?_ | refine mv ?_ | (refine I.ld ?_; refine ld rfl ?_) | refine asg ?_ | (refine I.fa ?_; refine fa ?_) | (refine I.nc ?_; refine nc ?_) | fail)
    refine WX.lookup rfl rfl rfl ?_
    rw [hv]
    repeat' (first | refine go ?_ | refine asg ?_ | (refine I.bin ?_; refine np rfl rfl ?_) | (refine I.cond ?_; refine cT ?_) | fail)
    exact D.fin1 [DBk d m lv, MBk m fs c, lh, fhp fs] _ rfl rfl ⟨rfl, rfl⟩
  | some x =>
    obtain ⟨f, pre, post, rfl, rfl, hn, hok, h1, h2, hv⟩ := hd.has hk
    have hE : S.errE k = 0 := by simp [DkS.errE, hk]
    obtain ⟨e1, e2⟩ := filt_eq h1 h2 hn
    have hS : S.remove k = { fs := (pre ++ post).map Fl.file, loose := S.loose.filter (keepP k) } := by
      simp only [DkS.remove, hk, Option.isNone_some, Bool.false_eq_true, if_false]
      rw [← hd.fs, e1]
      rfl
    rw [hE, hS]
    refine Ct.packP (pre := [DBk d m lv, MBk m (pre ++ f :: post) c, lh, fhp (pre ++ f :: post)]) (post := fun r H' => ∃ lv' lh', r = .int .i64 0 ∧ H' = [DBk d m lv', MBk m (pre ++ post) c, lh', fhp (pre ++ f :: post)] ∧ IsSl 87 (S.loose.filter (keepP k)) lv' lh') ?_ (by simp) ?_
    · refine Ct.mk' Tryz.func30 rfl rfl rfl (fun g R => ?_)
      try simp only [List.cons_append]
      simp only [List.nil_append]
      repeat' (first | refine go ?_ | refine mv ?_ | (refine I.ld ?_; refine ld rfl ?_) | refine asg ?_ | (refine I.fa ?_; refine fa ?_) | (refine I.nc ?_; refine nc ?_) | fail)
      refine WX.lookup rfl rfl rfl ?_
      rw [hv]
      repeat' (first | refine go ?_ | refine mv ?_ | (refine I.ld ?_; refine ld rfl ?_) | (refine I.fa ?_; refine fa ?_) | (refine I.nc ?_; refine nc ?_) | (refine I.bin ?_; refine np rfl rfl ?_) | (refine I.cond ?_; refine cF ?_) | fail)
      refine I.biN ?_
      refine WX.mapDel rfl rfl hd.mp.ks ?_
      rw [e2]
      repeat' (first | refine go ?_ | refine mv ?_ | fail)
      refine WX.call rfl (forget_ct hd.sl d m k hll) rfl ?_
      rintro _ _ ⟨lv', lh', rfl, rfl, hs'⟩
      simp only [List.cons_append, List.nil_append]
      repeat' (first | refine go ?_ | refine asg ?_ | fail)
      exact D.fin1 [DBk d m lv', MBk m (pre ++ post) c, lh', fhp (pre ++ f :: post)] _ rfl rfl ⟨_, _, rfl, rfl, hs'⟩
    · rintro r _ ⟨lv', lh', rfl, rfl, hs'⟩
      refine ⟨[DBk d m lv' ++ (MBk m (pre ++ post) c ++ (lh' ++ fhp (pre ++ post)))], f.hp, ?_, _, rfl, rfl, m, c, lv', pre ++ post, lh', ⟨by rw [← e2]; exact hd.mp.del _, fun x hx => hd.ok x ?_, rfl, hs'⟩, rfl⟩
      · simp only [fhp, List.map_append, List.map_cons, List.flatten_append, List.flatten_cons, List.flatten_nil, List.append_nil, List.cons_append, List.nil_append, List.append_assoc]
        refine List.Perm.cons _ (List.Perm.cons _ (List.Perm.append_left _ (List.Perm.append_left _ List.perm_append_comm)))
      · rcases List.mem_append.1 hx with hx | hx
        · exact List.mem_append_left _ hx
        · exact List.mem_append_right _ (List.mem_cons_of_mem _ hx)
end Go.Proofs.YtihaajncebdioaaGreat

/-
  The disk's calls that turn it: Append.
-/
set_option linter.unusedVariables false
set_option linter.unusedSimpArgs false
namespace Go.Proofs.YtihaajncebdioaaGreat
open Go Go.Sl

theorem find_mem {S : DkS} {k : Int} {x : FileP} (h : S.find k = some x) : x ∈ S.fs := List.mem_of_find?_eq_some h
theorem size_le_used {S : DkS} {x : FileP} (h : x ∈ S.fs) : x.b.length ≤ S.used := by
  unfold DkS.used
  have : ∀ {l : List FileP}, x ∈ l → x.b.length ≤ (l.map (·.b.length)).sum := by
    intro l hl
    induction l with
    | nil => cases hl
    | cons y r ih =>
      simp only [List.map_cons, List.sum_cons]
      rcases List.mem_cons.1 hl with rfl | hl
      · omega
      · have := ih hl; omega
  exact this h

set_option maxHeartbeats 1000000 in
theorem append_ct {S : DkS} {d : Nat} {h hx : Hp} (hd : IsDk S d h) (k : Int) {bs : List UInt8} {u : Value} (hb : Rs bs u hx) (hl : bs.length ≤ 1099511627776) (hu : S.used ≤ 1048576) (hf : S.fs.length ≤ 64) (hll : S.loose.length ≤ 1099511627776) :
    Ct Tryz.prog 32 [.pointer (some ⟨d, 0, none⟩), .int .i64 k, u] [h, hx] (fun r H' => ∃ h', r = .int .i64 (S.appE k bs.length) ∧ H' = [h', hx] ∧ IsDk (S.app k bs) d h') := by
  obtain ⟨m, c, lv, fs, lh, hd, rfl⟩ := hd
  have hfl := hd.len
  have hml : (fs.map Fl.me).length = fs.length := List.length_map _
  have hus := (used_ct (d := d) (h := DBk d m lv ++ (MBk m fs c ++ (lh ++ fhp fs))) ⟨m, c, lv, fs, lh, hd, rfl⟩ (by omega)).pack (pre' := [DBk d m lv, MBk m fs c, lh, fhp fs]) (post' := fun r H' => r = .int .i64 (S.used : Int) ∧ H' = [DBk d m lv, MBk m fs c, lh, fhp fs]) (by simp) (fun r H' p => ⟨[DBk d m lv, MBk m fs c, lh, fhp fs], by rw [p.2]; simp, p.1, rfl⟩)
  have hsame : ∀ E, S.appE k bs.length = E → E ≠ 0 → (Ct Tryz.prog 32 [.pointer (some ⟨d, 0, none⟩), .int .i64 k, u] [DBk d m lv, MBk m fs c, lh, fhp fs, hx] (fun r H' => r = .int .i64 E ∧ H' = [DBk d m lv, MBk m fs c, lh, fhp fs, hx])) →
      Ct Tryz.prog 32 [.pointer (some ⟨d, 0, none⟩), .int .i64 k, u] [DBk d m lv ++ (MBk m fs c ++ (lh ++ fhp fs)), hx] (fun r H' => ∃ h', r = .int .i64 (S.appE k bs.length) ∧ H' = [h', hx] ∧ IsDk (S.app k bs) d h') := by
    intro E hE hne hc
    refine hc.pack (by simp) (fun r H' p => ⟨[DBk d m lv ++ (MBk m fs c ++ (lh ++ fhp fs)), hx], by rw [p.2]; simp, _, by rw [p.1, hE], rfl, ?_⟩)
    rw [show S.app k bs = S from if_neg (by rw [hE]; exact hne)]
    exact ⟨m, c, lv, fs, lh, hd, rfl⟩
  by_cases hb1 : k < 0
  · refine hsame 50 (by simp [DkS.appE, hb1]) (by decide) ?_
    refine Ct.mk' Tryz.func32 rfl rfl rfl (fun g R => ?_)
    try simp only [List.cons_append]
    simp only [List.nil_append]
    repeat' (first | refine go ?_ | refine mv ?_ | (refine I.ld ?_; refine ld rfl ?_) | refine asg ?_ | (refine I.fa ?_; refine fa ?_) | (refine I.nc ?_; refine nc ?_) | fail)
    refine WX.lookup rfl rfl rfl ?_
    repeat' (first | refine go ?_ | refine mv ?_ | refine asg ?_ | (refine I.gd ?_; first | refine gn ?_ | refine gT ?_) | (refine I.bin ?_; refine cm rfl rfl ?_) | (refine I.pk ?_; refine pT ?_) | (refine I.cond ?_; refine cT ?_) | fail)
    exact D.fin1 [DBk d m lv, MBk m fs c, lh, fhp fs, hx] _ rfl rfl ⟨rfl, rfl⟩
  by_cases hb2 : 1099511627776 < k
  · refine hsame 50 (by simp [DkS.appE, hb2]) (by decide) ?_
    refine Ct.mk' Tryz.func32 rfl rfl rfl (fun g R => ?_)
    try simp only [List.cons_append]
    simp only [List.nil_append]
    repeat' (first | refine go ?_ | refine mv ?_ | (refine I.ld ?_; refine ld rfl ?_) | refine asg ?_ | (refine I.fa ?_; refine fa ?_) | (refine I.nc ?_; refine nc ?_) | fail)
    refine WX.lookup rfl rfl rfl ?_
    repeat' (first | refine go ?_ | refine mv ?_ | refine asg ?_ | (refine I.gd ?_; first | refine gy ?_ | refine gF ?_) | (refine I.bin ?_; refine cm rfl rfl ?_) | (refine I.pk ?_; refine pF ?_) | (refine I.cond ?_; refine cP ?_) | fail)
    exact D.fin1 [DBk d m lv, MBk m fs c, lh, fhp fs, hx] _ rfl rfl ⟨rfl, rfl⟩
  have hb3 : ¬ (k < 0 ∨ 1099511627776 < k) := by omega
  cases hk : S.find k with
  | none =>
    obtain ⟨hmf, hv⟩ := hd.no hk
    by_cases h64 : 64 ≤ S.fs.length
    · refine hsame 51 (by simp [DkS.appE, hb3, hk, h64]) (by decide) ?_
      refine Ct.mk' Tryz.func32 rfl rfl rfl (fun g R => ?_)
      try simp only [List.cons_append]
      simp only [List.nil_append]
      repeat' (first | refine go ?_ | refine mv ?_ | (refine I.ld ?_; refine ld rfl ?_) | refine asg ?_ | (refine I.fa ?_; refine fa ?_) | (refine I.nc ?_; refine nc ?_) | fail)
      refine WX.lookup rfl rfl rfl ?_
      rw [hv]
      repeat' (first | refine go ?_ | refine mv ?_ | (refine I.ld ?_; refine ld rfl ?_) | refine asg ?_ | (refine I.gd ?_; first | refine gy ?_ | refine gn ?_ | refine gT ?_ | refine gF ?_) | (refine I.fa ?_; refine fa ?_) | (refine I.nc ?_; refine nc ?_) | (refine I.bin ?_; first | refine cm rfl rfl ?_ | refine np rfl rfl ?_) | (refine I.pk ?_; first | refine pT ?_ | refine pF ?_) | (refine I.cond ?_; first | refine cT ?_ | refine cN ?_) | (refine I.bi ?_; refine WX.lenMap rfl rfl ?_) | fail)
      exact D.fin1 [DBk d m lv, MBk m fs c, lh, fhp fs, hx] _ rfl rfl ⟨rfl, rfl⟩
    by_cases hfull : 1048576 < S.used + bs.length
    · refine hsame 51 (by simp [DkS.appE, hb3, hfull]) (by decide) ?_
      refine Ct.mk' Tryz.func32 rfl rfl rfl (fun g R => ?_)
      try simp only [List.cons_append]
      simp only [List.nil_append]
      repeat' (first | refine go ?_ | refine mv ?_ | (refine I.ld ?_; refine ld rfl ?_) | refine asg ?_ | (refine I.fa ?_; refine fa ?_) | (refine I.nc ?_; refine nc ?_) | fail)
      refine WX.lookup rfl rfl rfl ?_
      rw [hv]
      repeat' (first | refine go ?_ | refine mv ?_ | (refine I.ld ?_; refine ld rfl ?_) | refine asg ?_ | (refine I.gd ?_; first | refine gy ?_ | refine gF ?_) | (refine I.fa ?_; refine fa ?_) | (refine I.nc ?_; refine nc ?_) | (refine I.bin ?_; first | refine cm rfl rfl ?_ | refine np rfl rfl ?_) | (refine I.pk ?_; first | refine pT ?_ | refine pF ?_) | (refine I.cond ?_; refine cN ?_) | (refine I.bi ?_; refine WX.lenMap rfl rfl ?_) | fail)
      refine WX.callQ rfl hus rfl ?_
      repeat' (first | refine go ?_ | refine mv ?_ | refine asg ?_ | (refine I.gd ?_; refine gy ?_) | (refine I.bin ?_; first | refine cm rfl rfl ?_ | refine ad ?_) | (refine I.pk ?_; refine pF ?_) | (refine I.cond ?_; refine cP ?_) | (refine I.bi ?_; refine ln rfl (by assumption) ?_) | fail)
      exact D.fin1 [DBk d m lv, MBk m fs c, lh, fhp fs, hx] _ rfl rfl ⟨rfl, rfl⟩
    have hE : S.appE k bs.length = 0 := by simp only [DkS.appE, hk]; rw [if_neg hb3, if_neg (by simp; omega)]
    have hS : S.app k bs = { fs := S.fs ++ [{ n := k, b := bs, s := 0 }], loose := S.loose ++ [⟨k, bs.length⟩] } := by simp [DkS.app, hE, hk]
    rw [hE, hS]
    refine Ct.pack (pre := [DBk d m lv, MBk m fs c, lh, fhp fs, hx]) (post := fun r H' => ∃ fb p' l' c' h' lv' lh', r = .int .i64 0 ∧ H' = [DBk d m lv', [(m, mob (fs.map Fl.me ++ [⟨k, .pointer (some ⟨fb, 0, none⟩), c⟩]) (c + 1))], lh', fhp fs, FBk fb (.slice p' l' c') 0, h', hx] ∧
        IsSl 5 bs (.slice p' l' c') h' ∧ IsSl 87 (S.loose ++ [⟨k, bs.length⟩]) lv' lh') ?_ (by simp)
      (fun r H' ⟨fb, p', l', c', h', lv', lh', e1, e2, e3, e4⟩ => ⟨[DBk d m lv' ++ (MBk m (fs ++ [⟨k, bs, 0, fb, p', l', c', h', c⟩]) (c + 1) ++ (lh' ++ fhp (fs ++ [⟨k, bs, 0, fb, p', l', c', h', c⟩]))), hx], by rw [e2]; simp [fhp, Fl.hp, Fl.me], _, e1, rfl, m, c + 1, lv', _, lh',
        ⟨by rw [List.map_append]; exact hd.mp.put hmf _, fun x hx => ?_, by rw [List.map_append, hd.fs]; rfl, e4⟩, rfl⟩)
    · refine Ct.mk' Tryz.func32 rfl rfl rfl (fun g R => ?_)
      try simp only [List.cons_append]
      simp only [List.nil_append]
      repeat' (first | refine go ?_ | refine mv ?_ | (refine I.ld ?_; refine ld rfl ?_) | refine asg ?_ | (refine I.fa ?_; refine fa ?_) | (refine I.nc ?_; refine nc ?_) | fail)
      refine WX.lookup rfl rfl rfl ?_
      rw [hv]
      repeat' (first | refine go ?_ | refine mv ?_ | (refine I.ld ?_; refine ld rfl ?_) | refine asg ?_ | (refine I.gd ?_; first | refine gy ?_ | refine gF ?_) | (refine I.fa ?_; refine fa ?_) | (refine I.nc ?_; refine nc ?_) | (refine I.bin ?_; first | refine cm rfl rfl ?_ | refine np rfl rfl ?_) | (refine I.pk ?_; first | refine pT ?_ | refine pF ?_) | (refine I.cond ?_; refine cN ?_) | (refine I.bi ?_; refine WX.lenMap rfl rfl ?_) | fail)
      refine WX.callQ rfl hus rfl ?_
      repeat' (first | refine go ?_ | refine mv ?_ | (refine I.ld ?_; refine ld rfl ?_) | refine asg ?_ | (refine I.gd ?_; refine gy ?_) | (refine I.fa ?_; refine fa ?_) | (refine I.nc ?_; refine nc ?_) | (refine I.bin ?_; first | refine cm rfl rfl ?_ | refine ad ?_ | refine np rfl rfl ?_) | (refine I.pk ?_; refine pF ?_) | (refine I.cond ?_; first | refine cT ?_ | refine cN ?_) | (refine I.bi ?_; refine ln rfl (by assumption) ?_) | refine bd ?_ | refine bx rfl (fun _ => ?_) | fail)
      rename_i fb
      refine WX.mapPut rfl rfl rfl hmf ?_
      repeat' (first | refine go ?_ | refine mv ?_ | (refine I.ld ?_; refine ld rfl ?_) | (refine I.fa ?_; refine fa ?_) | (refine I.nc ?_; refine nc ?_) | fail)
      refine WX.nilH ?_
      refine WX.app (xs := []) rfl rfl (IsSl.nil _) hb rfl rfl (by decide) (by simp only [List.length_nil]; omega) rfl (fun v1 h1 hs1 => ?_)
      rw [List.nil_append] at hs1
      obtain ⟨p1, n1, c1, rfl⟩ := hs1.sh
      repeat' (first | refine go ?_ | refine mv ?_ | (refine I.ld ?_; refine ld rfl ?_) | (refine I.fa ?_; refine fa ?_) | (refine I.nc ?_; refine nc ?_) | (refine I.bi ?_; refine ln rfl (by assumption) ?_) | (refine I.st ?_; refine st rfl rfl ?_) | refine bd ?_ | fail)
      refine I.bs ?_
      refine WX.lit (ys := [(⟨k, bs.length⟩ : Pc)]) rfl rfl rfl rfl rfl rfl (by decide) rfl (fun v2 h2 hs2 => ?_)
      refine WX.app rfl rfl hd.sl hs2.rs rfl rfl (by decide) (by simp only [List.length_cons, List.length_nil]; omega) rfl (fun v3 h3 hs3 => ?_)
      obtain ⟨p3, n3, c3, rfl⟩ := hs3.sh
      repeat' (first | refine go ?_ | refine asg ?_ | (refine I.fa ?_; refine fa ?_) | (refine I.nc ?_; refine nc ?_) | (refine I.st ?_; refine st rfl rfl ?_) | fail)
      exact D.fin1 [DBk d m (.slice p3 n3 c3), [(m, mob (fs.map Fl.me ++ [⟨k, .pointer (some ⟨fb, 0, none⟩), c⟩]) (c + 1))], h3, fhp fs, FBk fb (.slice p1 n1 c1) 0, h1, hx] _ rfl rfl ⟨fb, p1, n1, c1, h1, _, h3, rfl, rfl, hs1, hs3⟩
    · rcases List.mem_append.1 hx with hx | hx
      · exact hd.ok x hx
      · rw [List.mem_singleton] at hx; subst hx; exact e3
  | some x =>
    obtain ⟨f, pre, post, rfl, rfl, hn, hok, h1, h2, hv⟩ := hd.has hk
    have hr := IsSl.rs hok
    have hsz : f.b.length ≤ S.used := size_le_used (find_mem hk)
    by_cases hfull : 1048576 < S.used + bs.length
    · refine hsame 51 (by simp [DkS.appE, hb3, hfull]) (by decide) ?_
      refine Ct.mk' Tryz.func32 rfl rfl rfl (fun g R => ?_)
      try simp only [List.cons_append]
      simp only [List.nil_append]
      repeat' (first | refine go ?_ | refine mv ?_ | (refine I.ld ?_; refine ld rfl ?_) | refine asg ?_ | (refine I.fa ?_; refine fa ?_) | (refine I.nc ?_; refine nc ?_) | fail)
      refine WX.lookup rfl rfl rfl ?_
      rw [hv]
      repeat' (first | refine go ?_ | refine mv ?_ | refine asg ?_ | (refine I.gd ?_; first | refine gy ?_ | refine gn ?_ | refine gF ?_) | (refine I.bin ?_; first | refine cm rfl rfl ?_ | refine np rfl rfl ?_) | (refine I.pk ?_; refine pF ?_) | (refine I.cond ?_; refine cN ?_) | fail)
      refine WX.callQ rfl hus rfl ?_
      repeat' (first | refine go ?_ | refine mv ?_ | refine asg ?_ | (refine I.gd ?_; refine gy ?_) | (refine I.bin ?_; first | refine cm rfl rfl ?_ | refine ad ?_) | (refine I.pk ?_; refine pF ?_) | (refine I.cond ?_; refine cP ?_) | (refine I.bi ?_; refine ln rfl (by assumption) ?_) | fail)
      exact D.fin1 [DBk d m lv, MBk m (pre ++ f :: post) c, lh, fhp (pre ++ f :: post), hx] _ rfl rfl ⟨rfl, rfl⟩
    have hE : S.appE k bs.length = 0 := by simp only [DkS.appE, hk]; rw [if_neg hb3, if_neg (by simp; omega)]
    have hS' : S.app k bs = { fs := S.onF k fun f => { f with b := f.b ++ bs }, loose := S.loose ++ [⟨k, bs.length⟩] } := by simp [DkS.app, hE, hk]
    rw [hE, hS']
    refine Ct.pack (pre := [DBk d m lv, MBk m (pre ++ f :: post) c, lh, fhp (pre ++ f :: post), hx]) (post := fun r H' => ∃ p' l' c' h' lv' lh', r = .int .i64 0 ∧ H' = [DBk d m lv', MBk m (pre ++ f :: post) c, lh', fhp pre, FBk f.blk (.slice p' l' c') f.s, h', fhp post, hx] ∧
        IsSl 5 (f.b ++ bs) (.slice p' l' c') h' ∧ IsSl 87 (S.loose ++ [⟨k, bs.length⟩]) lv' lh') ?_ (by simp) ?_
    · refine Ct.mk' Tryz.func32 rfl rfl rfl (fun g R => ?_)
      try simp only [List.cons_append]
      simp only [List.nil_append]
      repeat' (first | refine go ?_ | refine mv ?_ | (refine I.ld ?_; refine ld rfl ?_) | refine asg ?_ | (refine I.fa ?_; refine fa ?_) | (refine I.nc ?_; refine nc ?_) | fail)
      refine WX.lookup rfl rfl rfl ?_
      rw [hv]
      repeat' (first | refine go ?_ | refine mv ?_ | refine asg ?_ | (refine I.gd ?_; first | refine gy ?_ | refine gn ?_ | refine gF ?_) | (refine I.bin ?_; first | refine cm rfl rfl ?_ | refine np rfl rfl ?_) | (refine I.pk ?_; refine pF ?_) | (refine I.cond ?_; refine cN ?_) | fail)
      refine WX.callQ rfl hus rfl ?_
      refine WX.flat (H' := [DBk d m lv, MBk m (pre ++ f :: post) c, lh, fhp pre, FBk f.blk (.slice f.p f.l f.c) f.s, f.h, fhp post, hx, R]) (by simp [fhp_split]) ?_
      repeat' (first | refine go ?_ | refine mv ?_ | (refine I.ld ?_; refine ld rfl ?_) | refine asg ?_ | (refine I.gd ?_; refine gy ?_) | (refine I.fa ?_; refine fa ?_) | (refine I.nc ?_; refine nc ?_) | (refine I.bin ?_; first | refine cm rfl rfl ?_ | refine ad ?_ | refine np rfl rfl ?_) | (refine I.pk ?_; refine pF ?_) | (refine I.cond ?_; first | refine cF ?_ | refine cN ?_) | (refine I.bi ?_; refine ln rfl (by assumption) ?_) | fail)
      refine WX.app rfl rfl hok hb rfl rfl (by decide) (by omega) rfl (fun v1 h1' hs1 => ?_)
      obtain ⟨p1, n1, c1, rfl⟩ := hs1.sh
      repeat' (first | refine go ?_ | refine mv ?_ | (refine I.ld ?_; refine ld rfl ?_) | (refine I.fa ?_; refine fa ?_) | (refine I.nc ?_; refine nc ?_) | (refine I.bi ?_; refine ln rfl (by assumption) ?_) | (refine I.st ?_; refine st rfl rfl ?_) | refine bd ?_ | fail)
      refine I.bs ?_
      refine WX.lit (ys := [(⟨k, bs.length⟩ : Pc)]) rfl rfl rfl rfl rfl rfl (by decide) rfl (fun v2 h2' hs2 => ?_)
      refine WX.app rfl rfl hd.sl hs2.rs rfl rfl (by decide) (by simp only [List.length_cons, List.length_nil]; omega) rfl (fun v3 h3 hs3 => ?_)
      obtain ⟨p3, n3, c3, rfl⟩ := hs3.sh
      repeat' (first | refine go ?_ | refine asg ?_ | (refine I.fa ?_; refine fa ?_) | (refine I.nc ?_; refine nc ?_) | (refine I.st ?_; refine st rfl rfl ?_) | fail)
      exact D.fin1 [DBk d m (.slice p3 n3 c3), MBk m (pre ++ f :: post) c, h3, fhp pre, FBk f.blk (.slice p1 n1 c1) f.s, h1', fhp post, hx] _ rfl rfl ⟨p1, n1, c1, h1', _, h3, rfl, rfl, hs1, hs3⟩
    · rintro r _ ⟨p', l', c', h', lv', lh', e1, rfl, e3, e4⟩
      obtain ⟨f', hf'⟩ : ∃ f' : Fl, f' = { f with b := f.b ++ bs, p := p', l := l', c := c', h := h' } := ⟨_, rfl⟩
      have hme : (pre ++ f' :: post).map Fl.me = (pre ++ f :: post).map Fl.me := by rw [hf']; simp [Fl.me]
      have hMB : MBk m (pre ++ f' :: post) c = MBk m (pre ++ f :: post) c := by unfold MBk; rw [hme]
      have hon : S.onF k (fun f => { f with b := f.b ++ bs }) = (pre ++ f' :: post).map Fl.file := by
        unfold DkS.onF; rw [← hd.fs]; exact onF_eq h1 h2 hn (by rw [hf']; rfl)
      refine ⟨[DBk d m lv' ++ (MBk m (pre ++ f' :: post) c ++ (lh' ++ fhp (pre ++ f' :: post))), hx], by rw [fhp_split, hMB, hf']; simp, _, e1, rfl, m, c, lv', _, lh', ⟨by rw [hme]; exact hd.mp, fun x hx => ?_, hon.symm, e4⟩, rfl⟩
      rcases List.mem_append.1 hx with hx | hx
      · exact hd.ok x (List.mem_append_left _ hx)
      · rcases List.mem_cons.1 hx with rfl | hx
        · rw [hf']; exact e3
        · exact hd.ok x (List.mem_append_right _ (List.mem_cons_of_mem _ hx))
end Go.Proofs.YtihaajncebdioaaGreat

/-
  The disk's calls that turn it: Truncate of a disk without loose pieces.
-/
set_option linter.unusedVariables false
set_option linter.unusedSimpArgs false
namespace Go.Proofs.YtihaajncebdioaaGreat
open Go Go.Sl

def DkS.trunc (S : DkS) (k : Int) (n : Nat) : DkS := { S with fs := S.onF k fun f => { f with b := f.b.take n, s := n } }
theorem trunc_ct {S : DkS} {d : Nat} {h : Hp} (hd : IsDk S d h) {k : Int} {x : FileP} (hk : S.find k = some x) (hs : x.s = x.b.length) {n : Nat} (hn : n ≤ x.b.length) (hb : x.b.length ≤ 1099511627776) (hl : S.loose = []) :
    Ct Tryz.prog 28 [.pointer (some ⟨d, 0, none⟩), .int .i64 k, .int .i64 (n : Int)] [h] (fun r H' => ∃ h', r = .int .i64 0 ∧ H' = [h'] ∧ IsDk (S.trunc k n) d h') := by
  obtain ⟨m, c, lv, fs, lh, hd, rfl⟩ := hd
  obtain ⟨f, pre, post, rfl, rfl, hfn, hok, h1, h2, hv⟩ := hd.has hk
  have hs : f.s = f.b.length := hs
  have hn : n ≤ f.b.length := hn
  have hb : f.b.length ≤ 1099511627776 := hb
  have hr : Rs f.b (.slice f.p f.l f.c) f.h := IsSl.rs hok
  have hlr := hd.sl.rs
  rw [hl] at hlr
  have hll : ((([] : List Pc).length : Nat) : Int) = 0 := rfl
  have hto := IsSl.to (m := n) hok hn
  refine Ct.pack (pre := [DBk d m lv, MBk m (pre ++ f :: post) c, lh, fhp pre, FBk f.blk (.slice f.p f.l f.c) f.s, f.h, fhp post]) (post := fun r H' => r = .int .i64 0 ∧ H' = [DBk d m lv, MBk m (pre ++ f :: post) c, lh, fhp pre, FBk f.blk (.slice f.p n f.c) n, f.h, fhp post]) ?_ (by rw [fhp_split]; simp) ?_
  · refine Ct.mk' Tryz.func28 rfl rfl rfl (fun g R => ?_)
    try simp only [List.cons_append]
    simp only [List.nil_append]
    repeat' (first | refine go ?_ | refine mv ?_ | (refine I.ld ?_; first | refine ld rfl ?_ | refine lE rfl (by assumption) ?_ | refine lA rfl ?_ | refine lF rfl (by assumption) ?_) | refine asg ?_ | (refine I.gd ?_; first | refine gy ?_ | refine gn ?_ | refine gnN ?_ | refine gu ?_ | refine guN ?_ | refine gT ?_ | refine gF ?_ | refine gS (fun _ => ?_) (fun _ => ?_)) | (refine I.fa ?_; first | refine fa ?_ | refine fE rfl ?_) | (refine I.nc ?_; first | refine nc ?_ | refine nE rfl ?_) | (refine I.bin ?_; first | refine cm rfl rfl ?_ | refine ad ?_ | refine su ?_ | refine np rfl rfl ?_ | refine eS ?_ | refine nS ?_) | (refine I.pk ?_; first | refine pT ?_ | refine pF ?_) | (refine I.cond ?_; first | refine cT ?_ | refine cF ?_ | refine cP ?_ | refine cN ?_) | refine mN ?_ | refine WX.nil ?_ | refine mU ?_ | refine mA ?_ | (refine I.bi ?_; first | refine ln rfl (by assumption) ?_ | refine l1 ?_ | refine lS ?_ | refine mi ?_ | refine ma ?_) | (refine I.ix ?_; first | refine ix rfl rfl ?_ | refine iI rfl rfl ?_ | refine iP ?_) | (refine I.st ?_; first | refine st rfl rfl ?_ | refine sG rfl rfl ?_) | refine ex ?_ | (refine I.un ?_; first | refine nD ?_ | refine nt ?_) | refine zY ?_ | refine bd ?_ | refine bx rfl (fun _ => ?_) | refine al (fun _ => ?_) | refine sl rfl rfl (by assumption) ?_ | refine cv rfl (by assumption) ?_)
    refine WX.lookup rfl rfl rfl ?_
    rw [hv]
    repeat' (first | refine go ?_ | refine mv ?_ | (refine I.ld ?_; first | refine ld rfl ?_ | refine lE rfl (by assumption) ?_ | refine lA rfl ?_ | refine lF rfl (by assumption) ?_) | refine asg ?_ | (refine I.gd ?_; first | refine gy ?_ | refine gn ?_ | refine gnN ?_ | refine gu ?_ | refine guN ?_ | refine gT ?_ | refine gF ?_ | refine gS (fun _ => ?_) (fun _ => ?_)) | (refine I.fa ?_; first | refine fa ?_ | refine fE rfl ?_) | (refine I.nc ?_; first | refine nc ?_ | refine nE rfl ?_) | (refine I.bin ?_; first | refine cm rfl rfl ?_ | refine ad ?_ | refine su ?_ | refine np rfl rfl ?_ | refine eS ?_ | refine nS ?_) | (refine I.pk ?_; first | refine pT ?_ | refine pF ?_) | (refine I.cond ?_; first | refine cT ?_ | refine cF ?_ | refine cP ?_ | refine cN ?_) | refine mN ?_ | refine WX.nil ?_ | refine mU ?_ | refine mA ?_ | (refine I.bi ?_; first | refine ln rfl (by assumption) ?_ | refine l1 ?_ | refine lS ?_ | refine mi ?_ | refine ma ?_) | (refine I.ix ?_; first | refine ix rfl rfl ?_ | refine iI rfl rfl ?_ | refine iP ?_) | (refine I.st ?_; first | refine st rfl rfl ?_ | refine sG rfl rfl ?_) | refine ex ?_ | (refine I.un ?_; first | refine nD ?_ | refine nt ?_) | refine zY ?_ | refine bd ?_ | refine bx rfl (fun _ => ?_) | refine al (fun _ => ?_) | refine sl rfl rfl (by assumption) ?_ | refine cv rfl (by assumption) ?_)
    refine W.quiet Tryz.mix (by kernel_rfl) ?_
    repeat' (first | refine go ?_ | refine mv ?_ | (refine I.ld ?_; first | refine ld rfl ?_ | refine lE rfl (by assumption) ?_ | refine lA rfl ?_ | refine lF rfl (by assumption) ?_) | refine asg ?_ | (refine I.gd ?_; first | refine gy ?_ | refine gn ?_ | refine gnN ?_ | refine gu ?_ | refine guN ?_ | refine gT ?_ | refine gF ?_ | refine gS (fun _ => ?_) (fun _ => ?_)) | (refine I.fa ?_; first | refine fa ?_ | refine fE rfl ?_) | (refine I.nc ?_; first | refine nc ?_ | refine nE rfl ?_) | (refine I.bin ?_; first | refine cm rfl rfl ?_ | refine ad ?_ | refine su ?_ | refine np rfl rfl ?_ | refine eS ?_ | refine nS ?_) | (refine I.pk ?_; first | refine pT ?_ | refine pF ?_) | (refine I.cond ?_; first | refine cT ?_ | refine cF ?_ | refine cP ?_ | refine cN ?_) | refine mN ?_ | refine WX.nil ?_ | refine mU ?_ | refine mA ?_ | (refine I.bi ?_; first | refine ln rfl (by assumption) ?_ | refine l1 ?_ | refine lS ?_ | refine mi ?_ | refine ma ?_) | (refine I.ix ?_; first | refine ix rfl rfl ?_ | refine iI rfl rfl ?_ | refine iP ?_) | (refine I.st ?_; first | refine st rfl rfl ?_ | refine sG rfl rfl ?_) | refine ex ?_ | (refine I.un ?_; first | refine nD ?_ | refine nt ?_) | refine zY ?_ | refine bd ?_ | refine bx rfl (fun _ => ?_) | refine al (fun _ => ?_) | refine sl rfl rfl (by assumption) ?_ | refine cv rfl (by assumption) ?_)
    refine W.loop (α := Nat) (fun _ => True) (fun _ => [(0, .pointer (some ⟨d, 0, none⟩)), (1, .int .i64 k), (2, .int .i64 (n : Int)), (6, .int .i64 0), (7, .pointer (some ⟨f.blk, 0, none⟩)), (9, .int .i64 (-1))]) (fun _ => [DBk d m lv, MBk m (pre ++ f :: post) c, lh, fhp pre, FBk f.blk (.slice f.p f.l f.c) f.s, f.h, fhp post, R]) (fun _ => 0) 0 trivial (by repeat (first | exact Fsub.nil | refine Fsub.cons rfl ?_)) (Hsub.of_picks inferInstance) ?_
    intro _ _
    repeat' (first | refine go ?_ | refine mv ?_ | (refine I.ld ?_; first | refine ld rfl ?_ | refine lE rfl (by assumption) ?_ | refine lA rfl ?_ | refine lF rfl (by assumption) ?_) | refine asg ?_ | (refine I.gd ?_; first | refine gy ?_ | refine gn ?_ | refine gnN ?_ | refine gu ?_ | refine guN ?_ | refine gT ?_ | refine gF ?_ | refine gS (fun _ => ?_) (fun _ => ?_)) | (refine I.fa ?_; first | refine fa ?_ | refine fE rfl ?_) | (refine I.nc ?_; first | refine nc ?_ | refine nE rfl ?_) | (refine I.bin ?_; first | refine cm rfl rfl ?_ | refine ad ?_ | refine su ?_ | refine np rfl rfl ?_ | refine eS ?_ | refine nS ?_) | (refine I.pk ?_; first | refine pT ?_ | refine pF ?_) | (refine I.cond ?_; first | refine cT ?_ | refine cF ?_ | refine cP ?_ | refine cN ?_) | refine mN ?_ | refine WX.nil ?_ | refine mU ?_ | refine mA ?_ | (refine I.bi ?_; first | refine ln rfl (by assumption) ?_ | refine l1 ?_ | refine lS ?_ | refine mi ?_ | refine ma ?_) | (refine I.ix ?_; first | refine ix rfl rfl ?_ | refine iI rfl rfl ?_ | refine iP ?_) | (refine I.st ?_; first | refine st rfl rfl ?_ | refine sG rfl rfl ?_) | refine ex ?_ | (refine I.un ?_; first | refine nD ?_ | refine nt ?_) | refine zY ?_ | refine bd ?_ | refine bx rfl (fun _ => ?_) | refine al (fun _ => ?_) | refine sl rfl rfl (by assumption) ?_ | refine cv rfl (by assumption) ?_)
    have hcl : ∀ (g : World) w, Cf g (fun v => [FBk f.blk v f.s]) w → w.cell? ⟨f.blk, 0 + 1, none⟩ = some (.int .i64 (f.s : Int)) := fun g w hw => by
      obtain ⟨v, h⟩ := hw
      have h1 := h.2.2 f.blk _ (List.mem_singleton.2 rfl)
      rw [cell_bk h1]; rfl
    refine W.mixC [true, true, true, true, true, false, true, true, true, true, true, true, true, true, true, true, false, true, true] (Cf g (fun v => [FBk f.blk v f.s])) (fun w h => Cf.of (.slice f.p f.l f.c) h) Tryz.mix (by kernel_rfl) ?_
    rename_i g _ _
    repeat' (first | refine go ?_ | refine mv ?_ | (refine I.ld ?_; first | refine ld rfl ?_ | refine lE rfl (by assumption) ?_ | refine lA rfl ?_ | refine lF rfl (by assumption) ?_) | refine asg ?_ | (refine I.gd ?_; first | refine gy ?_ | refine gn ?_ | refine gnN ?_ | refine gu ?_ | refine guN ?_ | refine gT ?_ | refine gF ?_ | refine gS (fun _ => ?_) (fun _ => ?_)) | (refine I.fa ?_; first | refine fa ?_ | refine fE rfl ?_) | (refine I.nc ?_; first | refine nc ?_ | refine nE rfl ?_) | (refine I.bin ?_; first | refine cm rfl rfl ?_ | refine ad ?_ | refine su ?_ | refine np rfl rfl ?_ | refine eS ?_ | refine nS ?_) | (refine I.pk ?_; first | refine pT ?_ | refine pF ?_) | (refine I.cond ?_; first | refine cT ?_ | refine cF ?_ | refine cP ?_ | refine cN ?_) | refine mN ?_ | refine WX.nil ?_ | refine mU ?_ | refine mA ?_ | (refine I.bi ?_; first | refine ln rfl (by assumption) ?_ | refine l1 ?_ | refine lS ?_ | refine mi ?_ | refine ma ?_) | (refine I.ix ?_; first | refine ix rfl rfl ?_ | refine iI rfl rfl ?_ | refine iP ?_) | (refine I.st ?_; first | refine st rfl rfl ?_ | refine sG rfl rfl ?_) | refine ex ?_ | (refine I.un ?_; first | refine nD ?_ | refine nt ?_) | refine zY ?_ | refine bd ?_ | refine bx rfl (fun _ => ?_) | refine al (fun _ => ?_) | refine sl rfl rfl (by assumption) ?_ | refine cv rfl (by assumption) ?_ | refine WN.load rfl (hcl g) rfl ?_ | refine WN.nil ?_ | refine WN.un0 (fun _ h => Cf.amb h) ?_ | refine WN.back0 ?_ | refine WN.an ?_ | refine WN.back (fun w h => Cf.of (.slice f.p f.l f.c) h) ?_ | refine WN.back (fun w h => Cf.of (slTo (.slice f.p f.l f.c) n) h) ?_)
    have hmn : (if (n : Int) < (f.s : Int) then (n : Int) else (f.s : Int)) = (n : Int) := by split <;> omega
    rw [hmn, show slTo (.slice f.p f.l f.c) n = .slice f.p n f.c from rfl]
    exact D.fin1 [DBk d m lv, MBk m (pre ++ f :: post) c, lh, fhp pre, FBk f.blk (.slice f.p n f.c) n, f.h, fhp post] _ rfl rfl ⟨rfl, rfl⟩
  · rintro r _ ⟨rfl, rfl⟩
    obtain ⟨f', hf'⟩ : ∃ f' : Fl, f' = { f with b := f.b.take n, s := n, l := n } := ⟨_, rfl⟩
    have hme : (pre ++ f' :: post).map Fl.me = (pre ++ f :: post).map Fl.me := by rw [hf']; simp [Fl.me]
    have hMB : MBk m (pre ++ f' :: post) c = MBk m (pre ++ f :: post) c := by unfold MBk; rw [hme]
    have hon : S.onF k (fun f => { f with b := f.b.take n, s := n }) = (pre ++ f' :: post).map Fl.file := by
      unfold DkS.onF; rw [← hd.fs]; exact onF_eq h1 h2 hfn (by rw [hf']; rfl)
    refine ⟨[DBk d m lv ++ (MBk m (pre ++ f' :: post) c ++ (lh ++ fhp (pre ++ f' :: post)))], by rw [fhp_split, hMB, hf']; simp, _, rfl, rfl, m, c, lv, _, lh, ⟨by rw [hme]; exact hd.mp, fun x hx => ?_, hon.symm, hd.sl⟩, rfl⟩
    rcases List.mem_append.1 hx with hx | hx
    · exact hd.ok x (List.mem_append_left _ hx)
    · rcases List.mem_cons.1 hx with rfl | hx
      · rw [hf']; exact hto
      · exact hd.ok x (List.mem_append_right _ (List.mem_cons_of_mem _ hx))
end Go.Proofs.YtihaajncebdioaaGreat

/-
  The disk's calls that turn it: Crash.
-/
set_option linter.unusedVariables false
set_option linter.unusedSimpArgs false
namespace Go.Proofs.YtihaajncebdioaaGreat
open Go Go.Sl

def crQ (keep : Int) (p : Pc) : Int := if (if p.n < keep then p.n else keep) > 0 then (if p.n < keep then p.n else keep) else 0
theorem crQ_le {keep : Int} {p : Pc} (h : 0 ≤ p.n) : 0 ≤ crQ keep p ∧ crQ keep p ≤ p.n ∧ (crQ keep p = 0 ∨ crQ keep p ≤ keep) := by
  unfold crQ
  by_cases h1 : p.n < keep
  · simp only [h1, if_true]; split <;> omega
  · simp only [h1, if_false]; split <;> omega
def crStep (s : List FileP × Int × Int) (p : Pc) : List FileP × Int × Int :=
  (s.1.map fun f => if f.n = p.f then { f with s := f.s + (crQ s.2.1 p).toNat } else f, s.2.1 - crQ s.2.1 p, s.2.2 + (p.n - crQ s.2.1 p))
namespace DkS
def crF (S : DkS) (keep : Int) (ps : List Pc) : List FileP × Int × Int := ps.foldl crStep (S.fs, keep, 0)
def crash (S : DkS) (keep : Int) : DkS := { fs := (S.crF keep S.loose).1.map fun f => { f with b := f.b.take f.s }, loose := [] }
def lost (S : DkS) (keep : Int) : Int := (S.crF keep S.loose).2.2
theorem crF_succ (S : DkS) (keep : Int) {j : Nat} {p : Pc} (h : S.loose[j]? = some p) : S.crF keep (S.loose.take (j + 1)) = crStep (S.crF keep (S.loose.take j)) p := by
  obtain ⟨h1, h2⟩ := List.getElem?_eq_some_iff.1 h
  unfold crF
  rw [List.take_succ_eq_append_getElem h1, h2, List.foldl_append]
  rfl
end DkS
/-- How many of these pieces' bytes are in file k. -/
def pn (k : Int) (ps : List Pc) : Int := ((ps.filter fun p => decide (p.f = k)).map (·.n)).sum
def WfI (fs : List FileP) (ps : List Pc) : Prop := (∀ p ∈ ps, 0 ≤ p.n ∧ ∃ f ∈ fs, f.n = p.f) ∧ ∀ f ∈ fs, (f.s : Int) + pn f.n ps ≤ f.b.length
theorem pn_nonneg {k : Int} {ps : List Pc} (h : ∀ p ∈ ps, 0 ≤ p.n) : 0 ≤ pn k ps := by
  unfold pn
  induction ps with
  | nil => simp
  | cons p r ih =>
    have h1 := h p (List.mem_cons_self ..)
    have h2 := ih fun q hq => h q (List.mem_cons_of_mem _ hq)
    rw [List.filter_cons]
    split
    · simp only [List.map_cons, List.sum_cons]; omega
    · exact h2
theorem pn_cons {k : Int} {p : Pc} {ps : List Pc} : pn k (p :: ps) = (if p.f = k then p.n else 0) + pn k ps := by
  unfold pn
  rw [List.filter_cons]
  by_cases h : p.f = k
  · simp [h]
  · simp [h]
theorem WfI.step {fs : List FileP} {keep lost : Int} {p : Pc} {ps : List Pc} (h : WfI fs (p :: ps)) : WfI (crStep (fs, keep, lost) p).1 ps := by
  obtain ⟨h1, h2⟩ := h
  refine ⟨fun q hq => ?_, fun f hf => ?_⟩
  · obtain ⟨h3, f, hf, hn⟩ := h1 q (List.mem_cons_of_mem _ hq)
    refine ⟨h3, _, List.mem_map.2 ⟨f, hf, rfl⟩, ?_⟩
    split <;> exact hn
  · obtain ⟨f0, hf0, rfl⟩ := List.mem_map.1 hf
    have h3 := h2 f0 hf0
    rw [pn_cons] at h3
    have h4 := crQ_le (keep := keep) (h1 p (List.mem_cons_self ..)).1
    by_cases hp : f0.n = p.f
    · rw [if_pos hp]
      rw [if_pos hp.symm] at h3
      simp only []
      omega
    · rw [if_neg hp]
      rw [if_neg (fun e => hp e.symm)] at h3
      omega
theorem find_of_mem {S : DkS} {c : Nat} {lv : Value} {fs : List Fl} {lh : Hp} (hd : Dk3 S c lv fs lh) {k : Int} (h : ∃ f ∈ S.fs, f.n = k) : ∃ x, S.find k = some x := by
  obtain ⟨f, hf, hn⟩ := h
  cases hk : S.find k with
  | some x => exact ⟨x, rfl⟩
  | none =>
    unfold DkS.find at hk
    have := List.find?_eq_none.1 hk f hf
    simp [hn] at this

def Fl.cut (f : Fl) : Fl := { f with b := f.b.take f.s, l := f.s }
def curF (vis : List Fl) (fs : List Fl) : List Fl := fs.map fun f => if f.n ∈ vis.map (·.n) then f.cut else f
theorem curF_me (vis fs : List Fl) : (curF vis fs).map Fl.me = fs.map Fl.me := by
  unfold curF
  rw [List.map_map]
  apply List.map_congr_left
  intro f _
  simp only [Function.comp]
  split <;> rfl
theorem curF_nil (fs : List Fl) : curF [] fs = fs := by
  unfold curF
  simp
theorem curF_all {vis fs : List Fl} (h : ∀ f ∈ fs, f ∈ vis) : curF vis fs = fs.map Fl.cut := by
  unfold curF
  apply List.map_congr_left
  intro f hf
  rw [if_pos (List.mem_map.2 ⟨f, h f hf, rfl⟩)]
theorem curF_step {vis pre post : List Fl} {f : Fl} (h1 : ∀ x ∈ pre, x.n ≠ f.n) (h2 : ∀ x ∈ post, x.n ≠ f.n) (hv : f.n ∉ vis.map (·.n)) :
    curF vis (pre ++ f :: post) = curF vis pre ++ f :: curF vis post ∧ curF (vis ++ [f]) (pre ++ f :: post) = curF vis pre ++ f.cut :: curF vis post := by
  have he : ∀ l : List Fl, (∀ x ∈ l, x.n ≠ f.n) → curF (vis ++ [f]) l = curF vis l := by
    intro l hl
    unfold curF
    apply List.map_congr_left
    intro x hx
    have := hl x hx
    simp [this]
  constructor
  · unfold curF
    rw [List.map_append, List.map_cons, if_neg hv]
  · rw [← he pre h1, ← he post h2]
    unfold curF
    rw [List.map_append, List.map_cons, if_pos (by simp)]
end Go.Proofs.YtihaajncebdioaaGreat

/-
  Crash walks.
-/
set_option linter.unusedVariables false
set_option linter.unusedSimpArgs false
namespace Go.Proofs.YtihaajncebdioaaGreat
open Go Go.Sl

theorem mp_ne {fs pre post : List Fl} {f : Fl} {c : Nat} (h : MpOk (fs.map Fl.me) c) (e : fs = pre ++ f :: post) : (∀ x ∈ pre, x.n ≠ f.n) ∧ (∀ x ∈ post, x.n ≠ f.n) := by
  have hks := h.ks
  rw [e] at hks
  simp only [List.map_append, List.map_cons] at hks
  rw [List.nodup_append] at hks
  obtain ⟨_, h2, h3⟩ := hks
  rw [List.nodup_cons] at h2
  exact ⟨fun x hx he => h3 _ (List.mem_map.2 ⟨x.me, List.mem_map.2 ⟨x, hx, rfl⟩, rfl⟩) _ (List.mem_cons_self ..) he, fun x hx he => h2.1 (List.mem_map.2 ⟨x.me, List.mem_map.2 ⟨x, hx, rfl⟩, he⟩)⟩
theorem Vis.nn {fs vis : List Fl} {f : Fl} {c : Nat} (h : Vis fs vis) (hm : MpOk (fs.map Fl.me) c) (hf : f ∈ fs) (hv : f.me ∉ vis.map Fl.me) : f.n ∉ vis.map (·.n) := by
  intro hc
  obtain ⟨x, hx, hn⟩ := List.mem_map.1 hc
  obtain ⟨rest, hp⟩ := h
  have hxf : x ∈ fs := hp.mem_iff.1 (List.mem_append_left _ hx)
  obtain ⟨pre, post, e⟩ := List.append_of_mem hf
  obtain ⟨h1, h2⟩ := mp_ne hm e
  rw [e] at hxf
  rcases List.mem_append.1 hxf with hxf | hxf
  · exact h1 x hxf hn
  · rcases List.mem_cons.1 hxf with rfl | hxf
    · exact hv (List.mem_map.2 ⟨x, hx, rfl⟩)
    · exact h2 x hxf hn

set_option maxHeartbeats 1000000 in
theorem crash_ct {S : DkS} {d : Nat} {h : Hp} (hd : IsDk S d h) {keep : Int} (hk1 : -9223372036854775808 ≤ keep) (hk2 : keep ≤ 9223372036854775807) (hw : WfI S.fs S.loose) (hu : S.used ≤ 1099511627776) (hll : S.loose.length ≤ 1099511627776) (hln : (S.loose.map (·.n)).sum ≤ 1099511627776) :
    Ct Tryz.prog 12 [.pointer (some ⟨d, 0, none⟩), .int .i64 keep] [h] (fun r H' => ∃ h', r = .int .i64 (S.lost keep) ∧ H' = [h'] ∧ IsDk (S.crash keep) d h') := by
  obtain ⟨m, c, lv, fs, lh, hd, rfl⟩ := hd
  have hr := hd.sl.rs
  refine Ct.pack (pre := [DBk d m lv, MBk m fs c, lh, fhp fs]) (post := fun r H' => ∃ fs1 : List Fl, r = .int .i64 (S.lost keep) ∧ H' = [DBk d m (.slice none 0 0), MBk m fs c, fhp (fs1.map Fl.cut)] ∧ fs1.map Fl.file = (S.crF keep S.loose).1 ∧ fs1.map Fl.me = fs.map Fl.me ∧ (∀ f ∈ fs1, f.cut.ok)) ?_ (by simp) ?_
  · refine Ct.mk' Tryz.func12 rfl rfl rfl (fun g R => ?_)
    try simp only [List.cons_append]
    simp only [List.nil_append]
    repeat' (first | refine go ?_ | refine mv ?_ | (refine I.ld ?_; refine ld rfl ?_) | refine asg ?_ | (refine I.fa ?_; refine fa ?_) | (refine I.nc ?_; refine nc ?_) | (refine I.bi ?_; refine ln rfl (by assumption) ?_) | fail)
    refine W.loop (α := Nat × List Fl) (fun x => x.1 ≤ S.loose.length ∧ Dk3 { S with fs := (S.crF keep (S.loose.take x.1)).1 } c lv x.2 lh ∧ x.2.map Fl.me = fs.map Fl.me ∧ WfI (S.crF keep (S.loose.take x.1)).1 (S.loose.drop x.1) ∧
        (∀ f ∈ x.2, f.b.length ≤ 1099511627776) ∧ 0 ≤ (S.crF keep (S.loose.take x.1)).2.2 ∧ (S.crF keep (S.loose.take x.1)).2.2 + ((S.loose.drop x.1).map (·.n)).sum ≤ 1099511627776 ∧ -9223372036854775808 ≤ (S.crF keep (S.loose.take x.1)).2.1 ∧ (S.crF keep (S.loose.take x.1)).2.1 ≤ 9223372036854775807)
      (fun x => [(0, .pointer (some ⟨d, 0, none⟩)), (1, .int .i64 (S.crF keep (S.loose.take x.1)).2.1), (4, .int .i64 0), (5, .int .i64 (S.crF keep (S.loose.take x.1)).2.2), (14, lv), (15, .int .i64 (S.loose.length : Int)), (16, .int .i64 (x.1 : Int))]) (fun x => [DBk d m lv, MBk m fs c, lh, fhp x.2, R]) (fun x => S.loose.length - x.1)
      (0, fs) ⟨Nat.zero_le _, hd, rfl, hw, fun f hf => ?_, by simp [DkS.crF], by simpa [DkS.crF] using hln, hk1, hk2⟩ (by repeat (first | exact Fsub.nil | refine Fsub.cons rfl ?_)) (Hsub.of_picks inferInstance) ?_
    · have : f.file ∈ S.fs := by rw [← hd.fs]; exact List.mem_map.2 ⟨f, hf, rfl⟩
      have := size_le_used this
      have e : f.file.b = f.b := rfl
      rw [e] at this
      omega
    rintro ⟨j, fs1⟩ ⟨hj, hd1, hme, hw1, hb1, hl0, hl1, hq0, hq1⟩
    simp only [] at hj hd1 hme hw1 hb1 hl0 hl1 hq0 hq1 ⊢
    by_cases hlt : j < S.loose.length
    · obtain ⟨p, hp⟩ : ∃ p, S.loose[j]? = some p := ⟨_, List.getElem?_eq_getElem hlt⟩
      have hs := S.crF_succ keep hp
      obtain ⟨h1, h2⟩ := List.getElem?_eq_some_iff.1 hp
      have hdr : S.loose.drop j = p :: S.loose.drop (j + 1) := by rw [List.drop_eq_getElem_cons h1, h2]
      rw [hdr] at hw1 hl1
      generalize hcr : S.crF keep (S.loose.take j) = s at *
      obtain ⟨F, K, Lo⟩ := s
      simp only [] at hl0 hl1 hq0 hq1 hw1 hd1 ⊢
      obtain ⟨hpn, hpf⟩ := hw1.1 p (List.mem_cons_self ..)
      have hQ := crQ_le (keep := K) hpn
      obtain ⟨x, hx⟩ := find_of_mem hd1 hpf
      obtain ⟨f, pre, post, rfl, rfl, hfn, hok, hp1, hp2, hv⟩ := hd1.has hx
      rw [hme] at hv
      have hfm : f.file ∈ F := find_mem hx
      have hfs := hw1.2 _ hfm
      rw [pn_cons, if_pos (show p.f = f.file.n from hfn.symm)] at hfs
      have hfp : 0 ≤ pn f.file.n (S.loose.drop (j + 1)) := pn_nonneg fun q hq => (hw1.1 q (List.mem_cons_of_mem _ hq)).1
      have hfs : (f.s : Int) + (p.n + pn f.file.n (S.loose.drop (j + 1))) ≤ f.b.length := hfs
      have hfl := hb1 f (by simp)
      obtain ⟨q, hq⟩ : ∃ q, q = crQ K p := ⟨_, rfl⟩
      have hqd : (if (if p.n < K then p.n else K) > 0 then (if p.n < K then p.n else K) else 0) = q := hq.symm
      have hps : 0 ≤ ((S.loose.drop (j + 1)).map (·.n)).sum := by
        have : ∀ l : List Pc, (∀ p ∈ l, 0 ≤ p.n) → 0 ≤ (l.map (·.n)).sum := by
          intro l hl
          induction l with
          | nil => simp
          | cons y r ih => simp only [List.map_cons, List.sum_cons]; have := hl y (List.mem_cons_self ..); have := ih fun z hz => hl z (List.mem_cons_of_mem _ hz); omega
        exact this _ fun q hq => (hw1.1 q (List.mem_cons_of_mem _ hq)).1
      rw [List.map_cons, List.sum_cons] at hl1
      rw [← hq] at hQ
      repeat' (first | refine go ?_ | refine mv ?_ | (refine I.ld ?_; first | refine ld rfl ?_ | refine lF rfl (by assumption) ?_) | refine asg ?_ | (refine I.fa ?_; refine fa ?_) | (refine I.bin ?_; refine cm rfl rfl ?_) | (refine I.cond ?_; refine cP ?_) | (refine I.bi ?_; first | refine mi ?_ | refine ma ?_) | (refine I.ix ?_; refine ix rfl rfl ?_) | (refine I.st ?_; refine sG rfl rfl ?_) | refine al (fun _ => ?_) | fail)
      rename_i b7
      rw [hqd]
      refine W.flat (H' := [[(b7, .cells (List.toArray (Enc.enc p)) 87 (0, 0))], DBk d m lv, MBk m fs c, lh, fhp pre, FBk f.blk (.slice f.p f.l f.c) f.s, f.h, fhp post, R]) (by simp [fhp_split]) ?_
      refine W.mix (List.replicate 12 true) [[(b7, .cells (List.toArray (Enc.enc p)) 87 (0, 0))], DBk d m lv, MBk m fs c, FBk f.blk (.slice f.p f.l f.c) f.s] Tryz.mix (by kernel_rfl) ?_
      repeat' (first | refine go ?_ | refine mv ?_ | (refine I.ld ?_; refine ld rfl ?_) | (refine I.fa ?_; refine fa ?_) | (refine I.nc ?_; refine nc ?_) | refine mU ?_ | fail)
      refine WX.lookup rfl rfl rfl ?_
      rw [hv]
      repeat' (first | refine go ?_ | refine mv ?_ | (refine I.ld ?_; refine ld rfl ?_) | refine asg ?_ | (refine I.fa ?_; refine fa ?_) | (refine I.nc ?_; refine nc ?_) | (refine I.bin ?_; first | refine ad ?_ | refine su ?_) | refine mN ?_ | refine mU ?_ | (refine I.st ?_; refine st rfl rfl ?_) | fail)
      rw [show (f.s : Int) + q = ((f.s + q.toNat : Nat) : Int) from by omega]
      refine D.as 1 (.int .i64 (S.crF keep (S.loose.take (j + 1))).2.1) rfl (by rw [hs, hq]; rfl) ?_
      refine D.as 5 (.int .i64 (S.crF keep (S.loose.take (j + 1))).2.2) rfl (by rw [hs, hq]; rfl) ?_
      obtain ⟨f', hf'⟩ : ∃ f' : Fl, f' = { f with s := f.s + q.toNat } := ⟨_, rfl⟩
      have hme' : (pre ++ f' :: post).map Fl.me = (pre ++ f :: post).map Fl.me := by rw [hf']; simp [Fl.me]
      have hon : (crStep (F, K, Lo) p).1 = (pre ++ f' :: post).map Fl.file := by
        unfold crStep
        simp only []
        rw [← hq, ← show (pre ++ f :: post).map Fl.file = F from hd1.fs]
        exact onF_eq hp1 hp2 hfn (by rw [hf']; rfl)
      refine D.flat (H' := [[(b7, .cells (List.toArray (Enc.enc p)) 87 (0, 0))], DBk d m lv, MBk m fs c, lh, fhp (pre ++ f' :: post), R]) (by rw [fhp_split, hf']; simp only [List.flatten_cons, List.append_assoc, List.cons_append, List.nil_append]) ?_
      refine D.round (j + 1, pre ++ f' :: post) ⟨by omega, ⟨by rw [hme']; exact hd1.mp, fun x hx => ?_, by rw [hs, hon], hd1.sl⟩, by rw [hme']; exact hme, by rw [hs]; exact hw1.step, fun x hx => ?_, ?_, ?_, ?_, ?_⟩ (by simp only []; omega) (by repeat (first | exact Fsub.nil | refine Fsub.cons rfl ?_)) (Hsub.of_picks inferInstance)
      · rcases List.mem_append.1 hx with hx | hx
        · exact hd1.ok x (List.mem_append_left _ hx)
        · rcases List.mem_cons.1 hx with rfl | hx
          · rw [hf']; exact hok
          · exact hd1.ok x (List.mem_append_right _ (List.mem_cons_of_mem _ hx))
      · rcases List.mem_append.1 hx with hx | hx
        · exact hb1 x (List.mem_append_left _ hx)
        · rcases List.mem_cons.1 hx with rfl | hx
          · rw [hf']; exact hfl
          · exact hb1 x (List.mem_append_right _ (List.mem_cons_of_mem _ hx))
      all_goals (rw [hs]; simp only [crStep]; rw [← hq]; omega)
    · obtain rfl : j = S.loose.length := by omega
      have hMB : MBk m fs c = MBk m fs1 c := by unfold MBk; rw [hme]
      rw [List.take_length] at hd1 hw1 hl0 hl1 ⊢
      rw [List.drop_length] at hw1
      rw [hMB]
      have hsb : ∀ f ∈ fs1, f.s ≤ f.b.length := by
        intro f hf
        have hm : f.file ∈ (S.crF keep S.loose).1 := by rw [← show fs1.map Fl.file = (S.crF keep S.loose).1 from hd1.fs]; exact List.mem_map.2 ⟨f, hf, rfl⟩
        have := hw1.2 _ hm
        have e : pn f.file.n [] = 0 := rfl
        rw [e] at this
        have h3 : (f.s : Int) + 0 ≤ f.b.length := this
        omega
      repeat' (first | refine go ?_ | refine mv ?_ | (refine I.ld ?_; refine ld rfl ?_) | (refine I.fa ?_; refine fa ?_) | (refine I.nc ?_; refine nc ?_) | (refine I.bin ?_; refine cm rfl rfl ?_) | (refine I.cond ?_; refine cN ?_) | fail)
      refine WX.range rfl rfl (fun r => ?_)
      repeat' (first | refine go ?_ | fail)
      refine W.loop (α := List Fl) (fun vis => Vis fs1 vis) (fun vis => [(0, .pointer (some ⟨d, 0, none⟩)), (4, .int .i64 0), (5, .int .i64 (S.crF keep S.loose).2.2), (53, .pointer (some ⟨r, 0, none⟩))]) (fun vis => [[(r, itob m c (vis.map Fl.me))], DBk d m lv, MBk m fs1 c, fhp (curF vis fs1), R]) (fun vis => fs1.length - vis.length) [] (Vis.start fs1) (by repeat (first | exact Fsub.nil | refine Fsub.cons rfl ?_)) (by rw [curF_nil]; show Hsub _ [[(r, itob m c [])], DBk d m lv, MBk m fs1 c, fhp fs1, R]; exact (Hsub.of_picks inferInstance)) ?_
      intro vis hv
      repeat' (first | refine go ?_ | fail)
      refine WX.next rfl hd1.mp hv.mem rfl (fun ha => ?_) (fun z hz hzv => ?_)
      · have hp := hv.done hd1.mp ha
        repeat' (first | refine go ?_ | refine mv ?_ | refine asg ?_ | (refine I.fa ?_; refine fa ?_) | (refine I.nc ?_; refine nc ?_) | (refine I.cond ?_; refine cF ?_) | (refine I.st ?_; refine st rfl rfl ?_) | refine ex ?_ | fail)
        rw [curF_all fun f hf => hp.mem_iff.2 hf]
        exact D.fin1 [DBk d m (.slice none 0 0), MBk m fs1 c, fhp (fs1.map Fl.cut)] _ rfl rfl ⟨fs1, rfl, rfl, hd1.fs, hme, fun f hf => IsSl.to (hd1.ok f hf) (hsb f hf)⟩
      · obtain ⟨f, hf, rfl⟩ := List.mem_map.1 hz
        obtain ⟨hv2, hlt⟩ := hv.step hf hzv
        have hnv := hv.nn hd1.mp hf hzv
        obtain ⟨pre, post, hfe⟩ := List.append_of_mem hf
        obtain ⟨hp1, hp2⟩ := mp_ne hd1.mp hfe
        obtain ⟨hc1, hc2⟩ := curF_step hp1 hp2 hnv
        have hfh : fhp (curF vis fs1) = fhp (curF vis pre) ++ (FBk f.blk (.slice f.p f.l f.c) f.s ++ (f.h ++ fhp (curF vis post))) := by rw [hfe, hc1, fhp_split]
        have hfh2 : fhp (curF (vis ++ [f]) fs1) = fhp (curF vis pre) ++ (FBk f.blk (.slice f.p f.s f.c) f.s ++ (f.h ++ fhp (curF vis post))) := by rw [hfe, hc2, fhp_split]; rfl
        have hrf : Rs f.b (.slice f.p f.l f.c) f.h := (hd1.ok f hf).rs
        have hsf := hsb f hf
        refine WX.flat (H' := [[(r, itob m c (vis.map Fl.me ++ [f.me]))], DBk d m lv, MBk m fs1 c, fhp (curF vis pre), FBk f.blk (.slice f.p f.l f.c) f.s, f.h, fhp (curF vis post), R]) (by simp [hfh]) ?_
        repeat' (first | refine go ?_ | (refine I.cond ?_; refine cT ?_) | refine ex ?_ | fail)
        refine WX.entry (vis := vis.map Fl.me) (z := f.me) rfl hd1.mp (List.mem_map.2 ⟨f, hf, rfl⟩) rfl ?_
        repeat' (first | refine go ?_ | refine asg ?_ | refine ex ?_ | fail)
        refine W.mix (List.replicate 10 true) [FBk f.blk (.slice f.p f.l f.c) f.s] Tryz.mix (by kernel_rfl) ?_
        repeat' (first | refine go ?_ | refine mv ?_ | (refine I.ld ?_; refine ld rfl ?_) | (refine I.fa ?_; refine fa ?_) | (refine I.nc ?_; refine nc ?_) | refine mN ?_ | refine mU ?_ | (refine I.st ?_; refine st rfl rfl ?_) | refine sl rfl rfl (by assumption) ?_ | fail)
        rw [show slTo (.slice f.p f.l f.c) f.s = .slice f.p f.s f.c from rfl]
        refine D.flat (H' := [[(r, itob m c ((vis ++ [f]).map Fl.me))], DBk d m lv, MBk m fs1 c, fhp (curF (vis ++ [f]) fs1), R]) (by simp [hfh2]) ?_
        exact D.round (vis ++ [f]) hv2 (by simp only [List.length_append, List.length_cons, List.length_nil]; omega) (by repeat (first | exact Fsub.nil | refine Fsub.cons rfl ?_)) (Hsub.of_picks inferInstance)
  · rintro r _ ⟨fs1, e1, rfl, e2, e3, e4⟩
    have hme : (fs1.map Fl.cut).map Fl.me = fs.map Fl.me := by rw [← e3, List.map_map]; rfl
    have hMB : MBk m (fs1.map Fl.cut) c = MBk m fs c := by unfold MBk; rw [hme]
    refine ⟨[DBk d m (.slice none 0 0) ++ (MBk m (fs1.map Fl.cut) c ++ ([] ++ fhp (fs1.map Fl.cut)))], by rw [hMB]; simp, _, e1, rfl, m, c, _, fs1.map Fl.cut, [], ⟨by rw [hme]; exact hd.mp, fun x hx => ?_, ?_, IsSl.nil _⟩, rfl⟩
    · obtain ⟨f, hf, rfl⟩ := List.mem_map.1 hx
      exact e4 f hf
    · unfold DkS.crash
      simp only []
      rw [← e2, List.map_map, List.map_map]
      rfl
end Go.Proofs.YtihaajncebdioaaGreat

/-
  Bits of numbers of 32 bits; shifts to the left.
-/
set_option linter.unusedVariables false
set_option linter.unusedSimpArgs false
namespace Go.Sl
open Go

section
variable {g : World} {P : Program} {ops : Array Oper} {Q : Exit → Act → World → Prop} {n : Nat} {rest : List Oper} {L : Fm} {H : HH} {q : Bool}
variable {d : Nat} {ty : TypeId} {pos : String} {af : Array Edge} {x y : Operand} {t t' a b : Nat}
theorem WX.xor32 (hx : ev L x = some (.int .u32 (a : Int))) (hy : ev L y = some (.int .u32 (b : Int))) (ha : a < 4294967296) (hb : b < 4294967296) (hd : Nat.blt d n = true)
    (k : WX q g P ops Q n rest ((d, .int .u32 ((a ^^^ b : Nat) : Int)) :: L) H) : WX q g P ops Q n (⟨some d, .binOp .xor t x y t', ty, pos, af, none⟩ :: rest) L H :=
  WX.val (fun ac hac w _ => run_bin (hac.ev hx) (hac.ev hy) run_eqGuard_int (by
    have := u32_xor_nat a b ha hb
    simp only [binOp, ne_eq, not_true_eq_false, if_false, intBits_xor, this, Sem.run_pure])) hd k
theorem WX.and32 (hx : ev L x = some (.int .u32 (a : Int))) (hy : ev L y = some (.int .u32 (b : Int))) (ha : a < 4294967296) (hb : b < 4294967296) (hd : Nat.blt d n = true)
    (k : WX q g P ops Q n rest ((d, .int .u32 ((a &&& b : Nat) : Int)) :: L) H) : WX q g P ops Q n (⟨some d, .binOp .and t x y t', ty, pos, af, none⟩ :: rest) L H :=
  WX.val (fun ac hac w _ => run_bin (hac.ev hx) (hac.ev hy) run_eqGuard_int (by
    have := u32_and_nat a b ha hb
    simp only [binOp, ne_eq, not_true_eq_false, if_false, intBits_and, this, Sem.run_pure])) hd k
theorem WX.com32 (hx : ev L x = some (.int .u32 (a : Int))) (ha : a < 4294967296) (hd : Nat.blt d n = true)
    (k : WX q g P ops Q n rest ((d, .int .u32 ((4294967295 ^^^ a : Nat) : Int)) :: L) H) : WX q g P ops Q n (⟨some d, .unOp .xor t x, ty, pos, af, none⟩ :: rest) L H :=
  WX.val (fun ac hac w _ => by
    have h1 := u32_xor_nat 4294967295 a (by decide) ha
    have h2 : (if IntKind.u32.signed then -1 else IntKind.u32.max) = ((4294967295 : Nat) : Int) := by decide
    simp only [execOp, hac.ev hx, Op.unary, h2, intBits_xor, h1, Sem.run_bind, Sem.run_pure, Result.andThen_ok]) hd k
/-- A shift to the left that stays in. -/
theorem WX.shlN {kd kd' : IntKind} {m : Nat} (hx : ev L x = some (.int kd (a : Int))) (hy : ev L y = some (.int kd' (m : Int))) (hm : m ≤ kd.bits) (hw : kd.wrap ((a * 2 ^ m : Nat) : Int) = ((a * 2 ^ m : Nat) : Int)) (hd : Nat.blt d n = true)
    (k : WX q g P ops Q n rest ((d, .int kd ((a * 2 ^ m : Nat) : Int)) :: L) H) : WX q g P ops Q n (⟨some d, .binOp .shl t x y t', ty, pos, af, none⟩ :: rest) L H :=
  WX.val (fun ac hac w _ => run_bin (hac.ev hx) (hac.ev hy) (by unfold eqGuard; rfl) (by
    have h1 : Min.min ((m : Int).toNat) kd.bits = m := by rw [Int.toNat_natCast]; exact Nat.min_eq_left hm
    have h2 : ((a : Int) * 2 ^ m) = ((a * 2 ^ m : Nat) : Int) := by norm_cast
    simp only [binOp, Op.shift]
    rw [if_neg (by omega), h1, h2, hw]
    rfl)) hd k
end
end Go.Sl

/-
  Gotos ahead.
-/
set_option linter.unusedVariables false
set_option linter.unusedSimpArgs false
namespace Go.Sl
open Go

section
variable {g : World} {P : Program} {Q : Exit → Act → World → Prop} {n : Nat} {L : Fm} {H : HH}
/-- What is behind a goto: the code from its label on. -/
def Beh (P : Program) (rest : Code) (Q : Exit → Act → World → Prop) : Act → World → Prop := fun a w => rest.wp P (Exit.noGoto Q) a w
theorem W.scopeF {c rest : Code} (l : Nat) (hf : findLabel c l = some rest) (h : W g P c (Exit.jump l (Beh P rest Q) Q) n L H) : W g P (.scope c) Q n L H := .mk fun a w ha hw =>
  wp_scope_jumps l (Beh P rest Q) (fun _ _ => 0) hf (h a w ha hw) fun a w hJ => wp_mono hJ fun e a' w' hq => by
    cases e <;> first | exact hq.elim | exact hq
theorem W.label {l : Nat} (h : D g Q .normal n L H) : W g P (.label l) Q n L H := .mk fun a w ha hw => wp_label (h a w ha hw)
theorem W.goto {l : Nat} (h : D g Q (.goto l) n L H) : W g P (.goto l) Q n L H := .mk fun a w ha hw => wp_goto (h a w ha hw)
theorem D.jmp {l : Nat} {rest : Code} (h : W g P rest (Exit.noGoto Q) n L H) : D g (Exit.jump l (Beh P rest Q) Q) (.goto l) n L H := .mk fun a w ha hw => ⟨rfl, h a w ha hw⟩
instance {l : Nat} : Go1 (W g P (.label l) Q n L H) (D g Q .normal n L H) := ⟨W.label⟩
instance {l : Nat} : Go1 (W g P (.goto l) Q n L H) (D g Q (.goto l) n L H) := ⟨W.goto⟩
instance {l : Nat} {rest : Code} : Go1 (D g (Exit.jump l (Beh P rest Q) Q) (.goto l) n L H) (W g P rest (Exit.noGoto Q) n L H) := ⟨D.jmp⟩
instance {l : Nat} {J : Act → World → Prop} : Go1 (D g (Exit.jump l J Q) .normal n L H) (D g Q .normal n L H) := ⟨fun h => .mk fun a w ha hw => h a w ha hw⟩
instance {l id : Nat} {J : Act → World → Prop} : Go1 (D g (Exit.jump l J Q) (.exit id) n L H) (D g Q (.exit id) n L H) := ⟨fun h => .mk fun a w ha hw => h a w ha hw⟩
instance {l : Nat} {J : Act → World → Prop} : Go1 (D g (Exit.jump l J Q) .ret n L H) (D g Q .ret n L H) := ⟨fun h => .mk fun a w ha hw => h a w ha hw⟩
instance : Go1 (D g (Exit.noGoto Q) .normal n L H) (D g Q .normal n L H) := ⟨fun h => .mk fun a w ha hw => h a w ha hw⟩
instance {id : Nat} : Go1 (D g (Exit.noGoto Q) (.exit id) n L H) (D g Q (.exit id) n L H) := ⟨fun h => .mk fun a w ha hw => h a w ha hw⟩
instance : Go1 (D g (Exit.noGoto Q) .ret n L H) (D g Q .ret n L H) := ⟨fun h => .mk fun a w ha hw => h a w ha hw⟩
instance {l : Nat} {N : Act → World → Prop} : Go1 (D g (Exit.then N Q) (.goto l) n L H) (D g Q (.goto l) n L H) := ⟨fun h => .mk fun a w ha hw => h a w ha hw⟩
instance {l id : Nat} : Go1 (D g (Exit.inBlock id Q) (.goto l) n L H) (D g Q (.goto l) n L H) := ⟨fun h => .mk fun a w ha hw => h a w ha hw⟩
end
end Go.Sl

/-
  Numbers as bytes, and the coder that writes one.
-/
set_option linter.unusedVariables false
set_option linter.unusedSimpArgs false
namespace Go.Proofs.YtihaajncebdioaaGreat
open Go Go.Sl

def encN (n : Nat) : List UInt8 := if n < 128 then [UInt8.ofNat n] else UInt8.ofNat (128 + n % 128) :: encN (n / 128)
theorem encN_lt {n : Nat} (h : n < 128) : encN n = [UInt8.ofNat n] := by rw [encN, if_pos h]
theorem encN_ge {n : Nat} (h : ¬ n < 128) : encN n = UInt8.ofNat (128 + n % 128) :: encN (n / 128) := by rw [encN, if_neg h]
theorem encN_len : ∀ (k : Nat) {n : Nat}, n < 128 ^ (k + 1) → (encN n).length ≤ k + 1 := by
  intro k
  induction k with
  | zero => intro n h; rw [encN_lt (by omega)]; simp
  | succ k ih =>
    intro n h
    by_cases h1 : n < 128
    · rw [encN_lt h1]; simp
    · rw [encN_ge h1, List.length_cons]
      have : n / 128 < 128 ^ (k + 1) := by
        rw [Nat.div_lt_iff_lt_mul (by decide)]
        rw [Nat.pow_succ] at h
        exact h
      have := ih this
      omega
theorem encN_pos (n : Nat) : 0 < (encN n).length := by
  by_cases h : n < 128
  · rw [encN_lt h]; simp
  · rw [encN_ge h]; simp
theorem encN_9 {n : Nat} (h : n ≤ 4611686018427387904) : (encN n).length ≤ 9 := encN_len 8 (by omega)

theorem byte_ofNat {n : Nat} (h : n < 256) : (UInt8.ofNat n).toNat = n := by rw [UInt8.toNat_ofNat']; exact Nat.mod_eq_of_lt h
/-- A coder. -/
structure Cd where
  b : List UInt8 := []
  p : Nat := 0
  rd : Bool := false
  bad : Bool := false
  arg : Bool := false
  long : Bool := false
abbrev CBr (c : Nat) (v : Value) (p : Nat) (rd bad arg long : Bool) : Hp := [(c, .cells (List.toArray [v, .int .i64 (p : Int), .bool rd, .bool bad, .bool arg, .bool long]) 104 (0, 0))]
abbrev CBk (c : Nat) (C : Cd) (v : Value) : Hp := CBr c v C.p C.rd C.bad C.arg C.long
def Cd.num (C : Cd) (n : Int) : Cd := if n < 0 ∨ 4611686018427387904 < n then { C with arg := true } else { C with b := C.b ++ encN n.toNat }

set_option maxHeartbeats 1000000 in
theorem numW_ct {C : Cd} (hr : C.rd = false) {v : Value} {h : Hp} (hs : IsSl 5 C.b v h) {vs : List Value} {T : Nat} {fr : Nat × Nat} {o : Nat} {n : Int} (hn : vs[o]? = some (.int .i64 n)) (hl : C.b.length ≤ 1099511627776) {c b : Nat} :
    Ct Tryz.prog 70 [.pointer (some ⟨c, 0, none⟩), .pointer (some ⟨b, o, none⟩)] [CBk c C v, [(b, .cells vs.toArray T fr)], h] (fun _ H' => ∃ v' h', H' = [CBk c (C.num n) v', [(b, .cells vs.toArray T fr)], h'] ∧ IsSl 5 (C.num n).b v' h') := by
  obtain ⟨B, p, rd, bad, arg, long⟩ := C
  simp only [] at hr hs hl ⊢
  subst hr
  refine Ct.mk' Tryz.func70 rfl rfl rfl (fun g R => ?_)
  try simp only [List.cons_append]
  simp only [List.nil_append]
  by_cases h1 : n < 0
  · rw [show (Cd.num ⟨B, p, false, bad, arg, long⟩ n) = ⟨B, p, false, bad, true, long⟩ from if_pos (.inl h1)]
    repeat' (first | refine go ?_ | refine mv ?_ | (refine I.ld ?_; refine ld rfl ?_) | refine asg ?_ | (refine I.gd ?_; first | refine gn ?_ | refine gT ?_) | (refine I.fa ?_; refine fa ?_) | (refine I.nc ?_; refine nc ?_) | (refine I.bin ?_; refine cm rfl rfl ?_) | (refine I.pk ?_; refine pT ?_) | (refine I.cond ?_; first | refine cT ?_ | refine cF ?_) | (refine I.st ?_; refine st rfl rfl ?_) | (refine I.ld ?_; refine WX.load rfl hn rfl ?_) | fail)
    exact D.fin0 [CBk c ⟨B, p, false, bad, true, long⟩ v, [(b, .cells vs.toArray T fr)], h] _ rfl ⟨_, _, rfl, hs⟩
  by_cases h2 : 4611686018427387904 < n
  · rw [show (Cd.num ⟨B, p, false, bad, arg, long⟩ n) = ⟨B, p, false, bad, true, long⟩ from if_pos (.inr h2)]
    repeat' (first | refine go ?_ | refine mv ?_ | (refine I.ld ?_; refine ld rfl ?_) | refine asg ?_ | (refine I.gd ?_; first | refine gy ?_ | refine gF ?_) | (refine I.fa ?_; refine fa ?_) | (refine I.nc ?_; refine nc ?_) | (refine I.bin ?_; refine cm rfl rfl ?_) | (refine I.pk ?_; refine pF ?_) | (refine I.cond ?_; first | refine cF ?_ | refine cP ?_) | (refine I.st ?_; refine st rfl rfl ?_) | (refine I.ld ?_; refine WX.load rfl hn rfl ?_) | fail)
    exact D.fin0 [CBk c ⟨B, p, false, bad, true, long⟩ v, [(b, .cells vs.toArray T fr)], h] _ rfl ⟨_, _, rfl, hs⟩
  rw [show (Cd.num ⟨B, p, false, bad, arg, long⟩ n) = ⟨B ++ encN n.toNat, p, false, bad, arg, long⟩ from if_neg (by omega)]
  obtain ⟨m0, rfl⟩ : ∃ m : Nat, n = (m : Int) := ⟨n.toNat, by omega⟩
  rw [Int.toNat_natCast]
  have h9 : (encN m0).length ≤ 9 := encN_9 (by omega)
  repeat' (first | refine go ?_ | refine mv ?_ | (refine I.ld ?_; refine ld rfl ?_) | refine asg ?_ | (refine I.gd ?_; refine gy ?_) | (refine I.fa ?_; refine fa ?_) | (refine I.nc ?_; refine nc ?_) | (refine I.bin ?_; refine cm rfl rfl ?_) | (refine I.pk ?_; refine pF ?_) | (refine I.cond ?_; first | refine cF ?_ | refine cN ?_) | (refine I.ld ?_; refine WX.load rfl hn rfl ?_) | fail)
  refine W.loop (α := Nat × List UInt8 × Value × Hp) (fun x => x.2.1 ++ encN x.1 = encN m0 ∧ IsSl 5 (B ++ x.2.1) x.2.2.1 x.2.2.2 ∧ x.1 ≤ m0) (fun x => [(0, .pointer (some ⟨c, 0, none⟩)), (4, .int .i64 (x.1 : Int))])
    (fun x => [CBk c ⟨B, p, false, bad, arg, long⟩ x.2.2.1, [(b, .cells vs.toArray T fr)], x.2.2.2, R]) (fun x => x.1) (m0, [], v, h) ⟨rfl, by simpa using hs, Nat.le_refl _⟩ (by repeat (first | exact Fsub.nil | refine Fsub.cons rfl ?_)) (Hsub.of_picks inferInstance) ?_
  rintro ⟨m, dn, u, hu⟩ ⟨e1, hs1, hm⟩
  simp only [] at e1 hs1 hm ⊢
  have hdl : dn.length ≤ 9 := by rw [← e1, List.length_append] at h9; omega
  by_cases hge : m < 128
  · rw [encN_lt hge] at e1
    repeat' (first | refine go ?_ | refine mv ?_ | (refine I.ld ?_; refine ld rfl ?_) | (refine I.fa ?_; refine fa ?_) | (refine I.nc ?_; refine nc ?_) | (refine I.bin ?_; refine cm rfl rfl ?_) | (refine I.cond ?_; refine cN ?_) | refine WX.conv rfl rfl (IntWalk.u8_in _ (by omega)) ?_ | fail)
    refine WX.as 48 (.int .u8 ((UInt8.ofNat m).toNat : Int)) rfl (by rw [byte_ofNat (by omega)]) ?_
    refine WX.lit (ys := [UInt8.ofNat m]) rfl rfl rfl rfl rfl rfl (by decide) rfl (fun v1 h1 hs2 => ?_)
    refine WX.app rfl rfl hs1 hs2.rs rfl rfl (by decide) (by simp only [List.length_append, List.length_cons, List.length_nil]; omega) rfl (fun v2 h2 hs3 => ?_)
    rw [List.append_assoc, e1] at hs3
    obtain ⟨p1, n1, c1, rfl⟩ := hs3.sh
    repeat' (first | refine go ?_ | (refine I.fa ?_; refine fa ?_) | (refine I.nc ?_; refine nc ?_) | (refine I.st ?_; refine st rfl rfl ?_) | fail)
    exact D.finE [CBk c ⟨B ++ encN m0, p, false, bad, arg, long⟩ (.slice p1 n1 c1), [(b, .cells vs.toArray T fr)], h2] _ rfl ⟨_, _, rfl, hs3⟩
  · rw [encN_ge hge] at e1
    repeat' (first | refine go ?_ | refine mv ?_ | (refine I.ld ?_; refine ld rfl ?_) | (refine I.fa ?_; refine fa ?_) | (refine I.nc ?_; refine nc ?_) | (refine I.bin ?_; refine cm rfl rfl ?_) | (refine I.cond ?_; refine cP ?_) | (refine I.bin ?_; refine WX.rem rfl rfl rfl (by decide) ?_) | fail)
    refine WX.as 35 (.int .i64 ((m % 128 : Nat) : Int)) rfl (by rw [Int.ofNat_tmod]; rfl) ?_
    repeat' (first | (refine I.bin ?_; refine ad ?_) | refine WX.conv rfl rfl (IntWalk.u8_in _ (by omega)) ?_ | fail)
    refine WX.as 37 (.int .u8 ((UInt8.ofNat (128 + m % 128)).toNat : Int)) rfl (by rw [byte_ofNat (by omega)]; congr 1) ?_
    refine WX.lit (ys := [UInt8.ofNat (128 + m % 128)]) rfl rfl rfl rfl rfl rfl (by decide) rfl (fun v1 h1 hs2 => ?_)
    refine WX.app rfl rfl hs1 hs2.rs rfl rfl (by decide) (by simp only [List.length_append, List.length_cons, List.length_nil]; omega) rfl (fun v2 h2 hs3 => ?_)
    rw [List.append_assoc] at hs3
    obtain ⟨p1, n1, c1, rfl⟩ := hs3.sh
    repeat' (first | refine go ?_ | refine mv ?_ | refine asg ?_ | (refine I.fa ?_; refine fa ?_) | (refine I.nc ?_; refine nc ?_) | (refine I.st ?_; refine st rfl rfl ?_) | (refine I.bin ?_; refine WX.quo rfl rfl rfl (by decide) ?_) | fail)
    refine D.as 4 (.int .i64 ((m / 128 : Nat) : Int)) rfl (by rw [IntWalk.i64_quo _ _ (by omega)]; rfl) ?_
    exact D.round (m / 128, dn ++ [UInt8.ofNat (128 + m % 128)], .slice p1 n1 c1, h2) ⟨by simp only []; rw [List.append_assoc]; exact e1, hs3, by simp only []; omega⟩ (by simp only []; omega) (by repeat (first | exact Fsub.nil | refine Fsub.cons rfl ?_)) (Hsub.of_picks inferInstance)
end Go.Proofs.YtihaajncebdioaaGreat

/-
  Checksums.
-/
set_option linter.unusedVariables false
set_option linter.unusedSimpArgs false
namespace Go.Proofs.YtihaajncebdioaaGreat
open Go Go.Sl

theorem byte_lt (x : UInt8) : x.toNat < 256 := x.toNat_lt
def crcD (r : Nat) : Nat := if r &&& 1 = 1 then (r / 2 ^ 1) ^^^ 3988292384 else r / 2 ^ 1
def crcI : Nat → Nat → Nat
  | 0, r => r
  | k + 1, r => crcD (crcI k r)
def crcB (r : Nat) (x : UInt8) : Nat := crcI 8 (r ^^^ x.toNat)
def crcM (s : Nat) (bs : List UInt8) : Nat := 4294967295 ^^^ bs.foldl crcB (4294967295 ^^^ s)
def crcS (bs : List UInt8) : Nat := crcM 0 bs
theorem xor_lt {a b : Nat} (ha : a < 4294967296) (hb : b < 4294967296) : a ^^^ b < 4294967296 := Nat.xor_lt_two_pow (n := 32) ha hb
theorem crcD_lt {r : Nat} (h : r < 4294967296) : crcD r < 4294967296 := by
  unfold crcD
  split
  · exact xor_lt (by omega) (by decide)
  · omega
theorem crcI_lt {r : Nat} (h : r < 4294967296) : ∀ k, crcI k r < 4294967296
  | 0 => h
  | k + 1 => crcD_lt (crcI_lt h k)
theorem crcB_lt {r : Nat} (h : r < 4294967296) (x : UInt8) : crcB r x < 4294967296 := crcI_lt (xor_lt h (by have := byte_lt x; omega)) 8
theorem crcF_lt {bs : List UInt8} : ∀ {r : Nat}, r < 4294967296 → bs.foldl crcB r < 4294967296 := by
  induction bs with
  | nil => intro r h; exact h
  | cons x t ih => intro r h; exact ih (crcB_lt h x)
theorem crcM_lt {s : Nat} (h : s < 4294967296) (bs : List UInt8) : crcM s bs < 4294967296 := xor_lt (by decide) (crcF_lt (xor_lt (by decide) h))
theorem crcS_lt (bs : List UInt8) : crcS bs < 4294967296 := crcM_lt (by decide) bs

theorem down_ct {r : Nat} (hr : r < 4294967296) : Ct Tryz.prog 111 [.int .u32 (r : Int)] [] (fun v H' => v = .int .u32 (crcD r : Int) ∧ H' = []) := by
  have h1 : r &&& 1 < 4294967296 := Nat.lt_of_le_of_lt Nat.and_le_left hr
  refine Ct.mk' Tryz.func111 rfl rfl rfl (fun g R => ?_)
  try simp only [List.cons_append]
  simp only [List.nil_append]
  by_cases h : r &&& 1 = 1
  · rw [show crcD r = (r / 2 ^ 1) ^^^ 3988292384 from if_pos h]
    repeat' (first | refine go ?_ | refine mv ?_ | refine asg ?_ | (refine I.bin ?_; refine cm rfl rfl ?_) | (refine I.cond ?_; refine cP ?_) | (refine I.bin ?_; first | refine WX.and32 (b := 1) rfl rfl hr (by decide) rfl ?_ | refine WX.shrN (m := 1) rfl rfl (by decide) rfl ?_ | refine WX.xor32 (b := 3988292384) rfl rfl (by omega) (by decide) rfl ?_) | fail)
    exact D.fin1 [] _ rfl rfl ⟨rfl, rfl⟩
  · rw [show crcD r = r / 2 ^ 1 from if_neg h]
    repeat' (first | refine go ?_ | refine mv ?_ | refine asg ?_ | (refine I.bin ?_; refine cm rfl rfl ?_) | (refine I.cond ?_; refine cN ?_) | (refine I.bin ?_; first | refine WX.and32 (b := 1) rfl rfl hr (by decide) rfl ?_ | refine WX.shrN (m := 1) rfl rfl (by decide) rfl ?_) | fail)
    exact D.fin1 [] _ rfl rfl ⟨rfl, rfl⟩

theorem more_ct {bs : List UInt8} {v : Value} {h : Hp} (hb : Rs bs v h) {s : Nat} (hs : s < 4294967296) (hl : bs.length ≤ 1099511627776) :
    Ct Tryz.prog 96 [.int .u32 (s : Int), v] [h] (fun r H' => r = .int .u32 (crcM s bs : Int) ∧ H' = [h]) := by
  refine Ct.mk' Tryz.func96 rfl rfl rfl (fun g R => ?_)
  try simp only [List.cons_append]
  simp only [List.nil_append]
  repeat' (first | refine go ?_ | refine mv ?_ | refine asg ?_ | (refine I.bi ?_; refine ln rfl (by assumption) ?_) | refine WX.com32 rfl hs rfl ?_ | fail)
  refine W.loop (α := Nat) (fun k => k ≤ bs.length) (fun k => [(5, .int .u32 (((bs.take k).foldl crcB (4294967295 ^^^ s) : Nat) : Int)), (10, v), (11, .int .i64 (bs.length : Int)), (12, .int .i64 (k : Int))]) (fun _ => [h, R]) (fun k => bs.length - k) 0 (Nat.zero_le _) (by repeat (first | exact Fsub.nil | refine Fsub.cons rfl ?_)) (Hsub.of_picks inferInstance) ?_
  intro k hk
  have hlt0 : (bs.take k).foldl crcB (4294967295 ^^^ s) < 4294967296 := crcF_lt (xor_lt (by decide) hs)
  by_cases hlt : k < bs.length
  · obtain ⟨x, hx⟩ : ∃ x, bs[k]? = some x := ⟨_, List.getElem?_eq_getElem hlt⟩
    obtain ⟨h1, h2⟩ := List.getElem?_eq_some_iff.1 hx
    have hnx : (bs.take (k + 1)).foldl crcB (4294967295 ^^^ s) = crcI 8 ((bs.take k).foldl crcB (4294967295 ^^^ s) ^^^ x.toNat) := by
      rw [List.take_succ_eq_append_getElem h1, h2, List.foldl_append]; rfl
    have hxl := byte_lt x
    generalize hr : (bs.take k).foldl crcB (4294967295 ^^^ s) = r at *
    have hrx : r ^^^ x.toNat < 4294967296 := xor_lt hlt0 (by omega)
    repeat' (first | refine go ?_ | refine mv ?_ | (refine I.ld ?_; refine lE rfl (by assumption) ?_) | refine asg ?_ | (refine I.bin ?_; refine cm rfl rfl ?_) | (refine I.cond ?_; refine cP ?_) | (refine I.ix ?_; refine ix rfl rfl ?_) | refine WX.conv rfl rfl (IntWalk.u32_in _ (by omega)) ?_ | (refine I.bin ?_; refine WX.xor32 rfl rfl hlt0 (by omega) rfl ?_) | fail)
    refine W.loop (α := Nat) (fun i => i ≤ 8) (fun i => [(5, .int .u32 ((crcI i (r ^^^ x.toNat) : Nat) : Int)), (10, v), (11, .int .i64 (bs.length : Int)), (12, .int .i64 (k : Int)), (20, .int .i64 (i : Int))]) (fun _ => [h, R]) (fun i => 8 - i) 0 (Nat.zero_le _) (by repeat (first | exact Fsub.nil | refine Fsub.cons rfl ?_)) (Hsub.of_picks inferInstance) ?_
    intro i hi
    have hci := crcI_lt hrx i
    by_cases hi8 : i < 8
    · repeat' (first | refine go ?_ | refine mv ?_ | (refine I.bin ?_; refine cm rfl rfl ?_) | (refine I.cond ?_; refine cP ?_) | fail)
      refine WX.callQ rfl (down_ct hci) rfl ?_
      repeat' (first | refine go ?_ | refine mv ?_ | refine asg ?_ | (refine I.bin ?_; refine ad ?_) | fail)
      exact D.round (i + 1) (by omega) (by omega) (by repeat (first | exact Fsub.nil | refine Fsub.cons rfl ?_)) (Hsub.of_picks inferInstance)
    · obtain rfl : i = 8 := by omega
      repeat' (first | refine go ?_ | refine mv ?_ | (refine I.bin ?_; first | refine cm rfl rfl ?_ | refine ad ?_) | (refine I.cond ?_; refine cF ?_) | fail)
      refine D.as 5 (.int .u32 (((bs.take (k + 1)).foldl crcB (4294967295 ^^^ s) : Nat) : Int)) rfl (by rw [hnx]) ?_
      exact D.round (k + 1) (by omega) (by omega) (by repeat (first | exact Fsub.nil | refine Fsub.cons rfl ?_)) (Hsub.of_picks inferInstance)
  · obtain rfl : k = bs.length := by omega
    rw [List.take_length] at hlt0 ⊢
    repeat' (first | refine go ?_ | refine mv ?_ | refine asg ?_ | (refine I.bin ?_; refine cm rfl rfl ?_) | (refine I.cond ?_; refine cN ?_) | refine WX.com32 rfl hlt0 rfl ?_ | fail)
    exact D.fin1 [h] _ rfl rfl ⟨rfl, rfl⟩

/-- A slice as an element of a slice. -/
structure Sv where
  p : Option Addr
  l : Nat
  c : Nat
abbrev Sv.v (s : Sv) : Value := .slice s.p s.l s.c
instance : Enc Sv := ⟨1, fun s => [s.v], fun _ => rfl, fun _ => rfl, by decide⟩
theorem sum_ct {sv : Sv} {u : Value} {hu : Hp} (hp : Rs [sv] u hu) {bs : List UInt8} {h : Hp} (hb : Rs bs sv.v h) (hl : bs.length ≤ 1099511627776) :
    Ct Tryz.prog 69 [u] [hu, h] (fun r H' => r = .int .u32 (crcS bs : Int) ∧ H' = [hu, h]) := by
  have h0 : ([sv] : List Sv)[0]? = some sv := rfl
  have hm := more_ct hb (s := 0) (by decide) hl
  refine Ct.mk' Tryz.func69 rfl rfl rfl (fun g R => ?_)
  try simp only [List.cons_append]
  simp only [List.nil_append]
  repeat' (first | refine go ?_ | refine mv ?_ | refine asg ?_ | (refine I.bi ?_; refine ln rfl (by assumption) ?_) | fail)
  refine W.loop (α := Nat) (fun k => k ≤ 1) (fun k => [(3, .int .u32 ((if k = 0 then 0 else crcS bs : Nat) : Int)), (6, u), (7, .int .i64 (([sv].length : Nat) : Int)), (8, .int .i64 (k : Int))]) (fun _ => [hu, h, R]) (fun k => 1 - k) 0 (Nat.zero_le _) (by repeat (first | exact Fsub.nil | refine Fsub.cons rfl ?_)) (Hsub.of_picks inferInstance) ?_
  intro k hk
  have hll : (([sv].length : Nat) : Int) = 1 := rfl
  by_cases hk0 : k = 0
  · subst hk0
    repeat' (first | refine go ?_ | refine mv ?_ | (refine I.ld ?_; refine lE rfl (by assumption) ?_) | refine asg ?_ | (refine I.bin ?_; refine cm rfl rfl ?_) | (refine I.cond ?_; refine cT ?_) | (refine I.ix ?_; refine ix rfl rfl ?_) | fail)
    refine WX.callQ rfl hm rfl ?_
    repeat' (first | refine go ?_ | refine mv ?_ | refine asg ?_ | (refine I.bin ?_; refine ad ?_) | fail)
    exact D.round 1 (by omega) (by omega) (by repeat (first | exact Fsub.nil | refine Fsub.cons rfl ?_)) (Hsub.of_picks inferInstance)
  · obtain rfl : k = 1 := by omega
    repeat' (first | refine go ?_ | refine mv ?_ | refine asg ?_ | (refine I.bin ?_; refine cm rfl rfl ?_) | (refine I.cond ?_; refine cF ?_) | fail)
    exact D.fin1 [hu, h] _ rfl rfl ⟨rfl, rfl⟩
end Go.Proofs.YtihaajncebdioaaGreat

/-
  The coder that reads a number.
-/
set_option linter.unusedVariables false
set_option linter.unusedSimpArgs false
namespace Go.Proofs.YtihaajncebdioaaGreat
open Go Go.Sl

theorem encN_at : ∀ (i n : Nat), (i = 0 ∨ 1 ≤ n / 128 ^ i) → ∃ pre, pre.length = i ∧ encN n = pre ++ encN (n / 128 ^ i) := by
  intro i
  induction i with
  | zero => intro n _; exact ⟨[], rfl, by simp⟩
  | succ i ih =>
    intro n h
    have h1 : 1 ≤ n / 128 ^ (i + 1) := by omega
    have h2 : ¬ n < 128 := by
      intro hlt
      have : n / 128 ^ (i + 1) = 0 := Nat.div_eq_of_lt (Nat.lt_of_lt_of_le hlt (by rw [Nat.pow_succ]; exact Nat.le_mul_of_pos_left _ (Nat.pow_pos (by decide))))
      omega
    have h3 : n / 128 / 128 ^ i = n / 128 ^ (i + 1) := by rw [Nat.div_div_eq_div_mul, Nat.pow_succ, Nat.mul_comm]
    obtain ⟨pre, hp, he⟩ := ih (n / 128) (.inr (by rw [h3]; exact h1))
    refine ⟨UInt8.ofNat (128 + n % 128) :: pre, by simp [hp], ?_⟩
    rw [encN_ge h2, he, h3]
    rfl
theorem pow128 (i : Nat) : 2 ^ (7 * i) = 128 ^ i := by rw [Nat.pow_mul]
theorem le8 {n i : Nat} (hn : n ≤ 4611686018427387904) (h : i = 0 ∨ 1 ≤ n / 128 ^ i) : i ≤ 8 := by
  rcases h with h | h
  · omega
  · have h1 : 128 ^ i ≤ n := by
      have := Nat.div_mul_le_self n (128 ^ i)
      exact Nat.le_trans (Nat.le_mul_of_pos_left _ h) this
    rcases Nat.lt_or_ge 8 i with h2 | h2
    · have : 128 ^ 9 ≤ 128 ^ i := Nat.pow_le_pow_right (by decide) h2
      omega
    · exact h2

set_option maxHeartbeats 1000000 in
theorem take_ct {C : Cd} {v : Value} {h : Hp} (hs : Rs C.b v h) {n : Nat} (hn : n ≤ 4611686018427387904) {rest : List UInt8} (hd : C.b.drop C.p = encN n ++ rest) (hl : C.b.length ≤ 1099511627776) {c : Nat} :
    Ct Tryz.prog 97 [.pointer (some ⟨c, 0, none⟩)] [CBk c C v, h] (fun r H' => r = .int .i64 (n : Int) ∧ H' = [CBk c { C with p := C.p + (encN n).length } v, h]) := by
  obtain ⟨B, p, rd, bad, arg, long⟩ := C
  simp only [] at hs hd hl ⊢
  refine Ct.mk' Tryz.func97 rfl rfl rfl (fun g R => ?_)
  try simp only [List.cons_append]
  simp only [List.nil_append]
  repeat' (first | refine go ?_ | refine asg ?_ | refine W.scopeF 0 rfl ?_ | fail)
  refine W.as 3 (.int .u64 ((n % 128 ^ 0 : Nat) : Int)) rfl (by rw [Nat.pow_zero, Nat.mod_one]; rfl) ?_
  refine W.loop (α := Nat) (fun i => i = 0 ∨ 1 ≤ n / 128 ^ i) (fun i => [(0, .pointer (some ⟨c, 0, none⟩)), (3, .int .u64 ((n % 128 ^ i : Nat) : Int)), (4, .int .i64 (i : Int))]) (fun i => [CBr c v (p + i) rd bad arg long, h, R]) (fun i => 9 - i) 0 (.inl rfl) (by repeat (first | exact Fsub.nil | refine Fsub.cons rfl ?_)) (Hsub.of_picks inferInstance) ?_
  intro i hi
  have hi8 := le8 hn hi
  obtain ⟨pre, hpl, hpe⟩ := encN_at i n hi
  have hlen : (encN n).length = i + (encN (n / 128 ^ i)).length := by rw [hpe, List.length_append, hpl]
  have hdi : B.drop (p + i) = encN (n / 128 ^ i) ++ rest := by
    rw [← List.drop_drop, hd, hpe, List.append_assoc, List.drop_append_of_le_length (by omega), ← hpl, List.drop_length]; rfl
  have hpi : p + i < B.length := by
    have := congrArg List.length hdi
    rw [List.length_drop, List.length_append] at this
    have := encN_pos (n / 128 ^ i)
    omega
  have hmn : n % 128 ^ i ≤ n := Nat.mod_le _ _
  have hsu : n % 128 ^ (i + 1) = n % 128 ^ i + n / 128 ^ i % 128 * 2 ^ (7 * i) := by rw [pow128, Nat.pow_succ, Nat.mod_mul, Nat.mul_comm (128 ^ i)]
  have hmn1 : n % 128 ^ (i + 1) ≤ n := Nat.mod_le _ _
  have hb : n / 128 ^ i % 128 * 2 ^ (7 * i) ≤ 4611686018427387904 := by omega
  have h7 : 7 * i ≤ IntKind.u64.bits := by show 7 * i ≤ 64; omega
  generalize hm : n / 128 ^ i = m at *
  obtain ⟨x, hx⟩ : ∃ x, B[p + i]? = some x := ⟨_, List.getElem?_eq_getElem hpi⟩
  have hx0 : (encN m ++ rest)[0]? = some x := by rw [← hdi, List.getElem?_drop]; exact hx
  by_cases hge : m < 128
  · have hxm : x.toNat = m := by
      rw [encN_lt hge] at hx0
      have : UInt8.ofNat m = x := by simpa using hx0
      rw [← this, byte_ofNat (by omega)]
    have hnn : n % 128 ^ (i + 1) = n := by
      refine Nat.mod_eq_of_lt ?_
      rw [Nat.pow_succ, Nat.mul_comm, ← Nat.div_lt_iff_lt_mul (Nat.pow_pos (by decide)), hm]
      exact hge
    have hl1 : (encN n).length = i + 1 := by rw [hlen, encN_lt hge]; rfl
    by_cases hm0 : m = 0
    · have hi0 : i = 0 := by omega
      repeat' (first | refine go ?_ | refine mv ?_ | (refine I.bin ?_; refine cm rfl rfl ?_) | (refine I.cond ?_; refine cP ?_) | fail)
      refine W.quiet Tryz.mix (by kernel_rfl) ?_
      repeat' (first | refine go ?_ | refine mv ?_ | (refine I.ld ?_; refine ld rfl ?_) | (refine I.fa ?_; refine fa ?_) | (refine I.nc ?_; refine nc ?_) | (refine I.bin ?_; refine cm rfl rfl ?_) | (refine I.cond ?_; refine cN ?_) | (refine I.bi ?_; refine ln rfl (by assumption) ?_) | fail)
      refine W.quiet Tryz.mix (by kernel_rfl) ?_
      repeat' (first | refine go ?_ | refine mv ?_ | (refine I.ld ?_; first | refine ld rfl ?_ | refine lE rfl (by assumption) ?_) | refine asg ?_ | (refine I.fa ?_; refine fa ?_) | (refine I.nc ?_; refine nc ?_) | (refine I.bin ?_; refine ad ?_) | (refine I.ix ?_; refine ix rfl rfl ?_) | (refine I.st ?_; refine st rfl rfl ?_) | (refine I.bin ?_; refine WX.rem rfl rfl rfl (by decide) ?_) | fail)
      refine WX.as 39 (.int .u8 ((m % 128 : Nat) : Int)) rfl (by rw [hxm, show ((128 : Int)) = ((128 : Nat) : Int) from rfl, ← Int.ofNat_tmod]) ?_
      refine WX.conv rfl rfl (IntWalk.u64_in _ (by omega)) ?_
      repeat' (first | refine mv ?_ | (refine I.bin ?_; refine WX.mul rfl rfl rfl (by omega) ?_) | fail)
      refine WX.as 42 (.int .i64 ((7 * i : Nat) : Int)) rfl (by congr 1) ?_
      refine WX.shlN rfl rfl h7 (IntWalk.u64_in _ ⟨Int.natCast_nonneg _, Int.le_trans (Int.ofNat_le.2 hb) (by decide)⟩) rfl ?_
      refine WX.addW rfl rfl rfl ?_
      refine WX.as 44 (.int .u64 ((n % 128 ^ (i + 1) : Nat) : Int)) rfl (by rw [← Int.natCast_add, ← hsu]; exact congrArg _ (IntWalk.u64_in _ (by omega))) ?_
      repeat' (first | refine go ?_ | refine mv ?_ | refine asg ?_ | (refine I.gd ?_; first | refine gy ?_ | refine gT ?_ | refine gF ?_) | (refine I.bin ?_; refine cm rfl rfl ?_) | (refine I.pk ?_; first | refine pT ?_ | refine pF ?_) | (refine I.cond ?_; refine cN ?_) | refine WX.conv rfl rfl (IntWalk.i64_in _ (by omega)) ?_ | fail)
      rw [show (((p + i : Nat) : Int) + 1) = ((p + (i + 1) : Nat) : Int) from rfl, hl1]
      exact D.fin1 [CBr c v (p + (i + 1)) rd bad arg long, h] _ rfl rfl ⟨by rw [hnn], rfl⟩
    · skip
      repeat' (first | refine go ?_ | refine mv ?_ | (refine I.bin ?_; refine cm rfl rfl ?_) | (refine I.cond ?_; refine cP ?_) | fail)
      refine W.quiet Tryz.mix (by kernel_rfl) ?_
      repeat' (first | refine go ?_ | refine mv ?_ | (refine I.ld ?_; refine ld rfl ?_) | (refine I.fa ?_; refine fa ?_) | (refine I.nc ?_; refine nc ?_) | (refine I.bin ?_; refine cm rfl rfl ?_) | (refine I.cond ?_; refine cN ?_) | (refine I.bi ?_; refine ln rfl (by assumption) ?_) | fail)
      refine W.quiet Tryz.mix (by kernel_rfl) ?_
      repeat' (first | refine go ?_ | refine mv ?_ | (refine I.ld ?_; first | refine ld rfl ?_ | refine lE rfl (by assumption) ?_) | refine asg ?_ | (refine I.fa ?_; refine fa ?_) | (refine I.nc ?_; refine nc ?_) | (refine I.bin ?_; refine ad ?_) | (refine I.ix ?_; refine ix rfl rfl ?_) | (refine I.st ?_; refine st rfl rfl ?_) | (refine I.bin ?_; refine WX.rem rfl rfl rfl (by decide) ?_) | fail)
      refine WX.as 39 (.int .u8 ((m % 128 : Nat) : Int)) rfl (by rw [hxm, show ((128 : Int)) = ((128 : Nat) : Int) from rfl, ← Int.ofNat_tmod]) ?_
      refine WX.conv rfl rfl (IntWalk.u64_in _ (by omega)) ?_
      repeat' (first | refine mv ?_ | (refine I.bin ?_; refine WX.mul rfl rfl rfl (by omega) ?_) | fail)
      refine WX.as 42 (.int .i64 ((7 * i : Nat) : Int)) rfl (by congr 1) ?_
      refine WX.shlN rfl rfl h7 (IntWalk.u64_in _ ⟨Int.natCast_nonneg _, Int.le_trans (Int.ofNat_le.2 hb) (by decide)⟩) rfl ?_
      refine WX.addW rfl rfl rfl ?_
      refine WX.as 44 (.int .u64 ((n % 128 ^ (i + 1) : Nat) : Int)) rfl (by rw [← Int.natCast_add, ← hsu]; exact congrArg _ (IntWalk.u64_in _ (by omega))) ?_
      repeat' (first | refine go ?_ | refine mv ?_ | refine asg ?_ | (refine I.gd ?_; first | refine gy ?_ | refine gn ?_ | refine gF ?_) | (refine I.bin ?_; refine cm rfl rfl ?_) | (refine I.pk ?_; refine pF ?_) | (refine I.cond ?_; first | refine cF ?_ | refine cN ?_) | refine WX.conv rfl rfl (IntWalk.i64_in _ (by omega)) ?_ | fail)
      rw [show (((p + i : Nat) : Int) + 1) = ((p + (i + 1) : Nat) : Int) from rfl, hl1]
      exact D.fin1 [CBr c v (p + (i + 1)) rd bad arg long, h] _ rfl rfl ⟨by rw [hnn], rfl⟩
  · have hxm : x.toNat = 128 + m % 128 := by
      rw [encN_ge hge] at hx0
      have : UInt8.ofNat (128 + m % 128) = x := by simpa using hx0
      rw [← this, byte_ofNat (by omega)]
    repeat' (first | refine go ?_ | refine mv ?_ | (refine I.bin ?_; refine cm rfl rfl ?_) | (refine I.cond ?_; refine cP ?_) | fail)
    refine W.quiet Tryz.mix (by kernel_rfl) ?_
    repeat' (first | refine go ?_ | refine mv ?_ | (refine I.ld ?_; refine ld rfl ?_) | (refine I.fa ?_; refine fa ?_) | (refine I.nc ?_; refine nc ?_) | (refine I.bin ?_; refine cm rfl rfl ?_) | (refine I.cond ?_; refine cN ?_) | (refine I.bi ?_; refine ln rfl (by assumption) ?_) | fail)
    refine W.quiet Tryz.mix (by kernel_rfl) ?_
    repeat' (first | refine go ?_ | refine mv ?_ | (refine I.ld ?_; first | refine ld rfl ?_ | refine lE rfl (by assumption) ?_) | refine asg ?_ | (refine I.fa ?_; refine fa ?_) | (refine I.nc ?_; refine nc ?_) | (refine I.bin ?_; refine ad ?_) | (refine I.ix ?_; refine ix rfl rfl ?_) | (refine I.st ?_; refine st rfl rfl ?_) | (refine I.bin ?_; refine WX.rem rfl rfl rfl (by decide) ?_) | fail)
    refine WX.as 39 (.int .u8 ((m % 128 : Nat) : Int)) rfl (by rw [hxm, show ((128 : Int)) = ((128 : Nat) : Int) from rfl, ← Int.ofNat_tmod]; congr 1; omega) ?_
    refine WX.conv rfl rfl (IntWalk.u64_in _ (by omega)) ?_
    repeat' (first | refine mv ?_ | (refine I.bin ?_; refine WX.mul rfl rfl rfl (by omega) ?_) | fail)
    refine WX.as 42 (.int .i64 ((7 * i : Nat) : Int)) rfl (by congr 1) ?_
    refine WX.shlN rfl rfl h7 (IntWalk.u64_in _ ⟨Int.natCast_nonneg _, Int.le_trans (Int.ofNat_le.2 hb) (by decide)⟩) rfl ?_
    refine WX.addW rfl rfl rfl ?_
    refine WX.as 44 (.int .u64 ((n % 128 ^ (i + 1) : Nat) : Int)) rfl (by rw [← Int.natCast_add, ← hsu]; exact congrArg _ (IntWalk.u64_in _ (by omega))) ?_
    repeat' (first | refine go ?_ | refine mv ?_ | refine asg ?_ | (refine I.bin ?_; first | refine cm rfl rfl ?_ | refine ad ?_) | (refine I.cond ?_; refine cP ?_) | fail)
    rw [show (((p + i : Nat) : Int) + 1) = ((p + (i + 1) : Nat) : Int) from rfl]
    exact D.round (i + 1) (.inr (by rw [Nat.pow_succ, ← Nat.div_div_eq_div_mul, hm]; omega)) (by omega) (by repeat (first | exact Fsub.nil | refine Fsub.cons rfl ?_)) (Hsub.of_picks inferInstance)
end Go.Proofs.YtihaajncebdioaaGreat

/-
  Items that a coder goes over, writing and reading; numbers.
-/
set_option linter.unusedVariables false
set_option linter.unusedSimpArgs false
namespace Go.Proofs.YtihaajncebdioaaGreat
open Go Go.Sl

inductive It where
  | num (o : Nat)
  | txt (o most : Nat)
  | tru (o : Nat)
def It.o : It → Nat
  | .num o => o
  | .txt o _ => o
  | .tru o => o
def okV : It → Value → Prop
  | .num _, u => ∃ n : Int, u = .int .i64 n
  | .txt _ _, u => ∃ s : ByteArray, u = .string s
  | .tru _, u => ∃ t : Bool, u = .bool t
def encI : It → Value → Option (List UInt8)
  | .num _, .int .i64 n => if n < 0 ∨ 4611686018427387904 < n then none else some (encN n.toNat)
  | .txt _ _, .string s => some (encN s.data.toList.length ++ s.data.toList)
  | .tru _, .bool t => some (encN (if t = true then 1 else 0))
  | _, _ => none
def longI : It → Value → Bool
  | .txt _ most, .string s => decide (most < s.data.toList.length)
  | _, _ => false
theorem encI_num {o : Nat} {n : Int} : encI (.num o) (.int .i64 n) = if n < 0 ∨ 4611686018427387904 < n then none else some (encN n.toNat) := rfl
theorem longI_num {o : Nat} {n : Int} : longI (.num o) (.int .i64 n) = false := rfl
inductive CSt : Cd → List Value → It → Cd → List Value → Prop
  | w {C : Cd} {vs : List Value} {it : It} {u : Value} (hr : C.rd = false) (hv : vs[it.o]? = some u) (ok : okV it u) : CSt C vs it { C with b := C.b ++ (encI it u).getD [], arg := C.arg || (encI it u).isNone, long := C.long || longI it u } vs
  | r {C : Cd} {vs : List Value} {it : It} {u u0 : Value} {e rest : List UInt8} (hr : C.rd = true) (hv : vs[it.o]? = some u0) (ok0 : okV it u0) (ok : okV it u) (he : encI it u = some e) (hd : C.b.drop C.p = e ++ rest) :
    CSt C vs it { C with p := C.p + e.length } (vs.set it.o u)
structure CdOk (C : Cd) (v : Value) (h : Hp) : Prop where
  r : C.rd = true → Rs C.b v h
  w : C.rd = false → IsSl 5 C.b v h
  l : C.b.length ≤ 1099511627776
theorem Cd.num_eq (C : Cd) (n : Int) {o : Nat} : C.num n = { C with b := C.b ++ (encI (.num o) (.int .i64 n)).getD [], arg := C.arg || (encI (.num o) (.int .i64 n)).isNone, long := C.long || longI (.num o) (.int .i64 n) } := by
  unfold Cd.num
  rw [encI_num, longI_num]
  obtain ⟨B, p, rd, bad, arg, long⟩ := C
  by_cases h : n < 0 ∨ 4611686018427387904 < n
  · rw [if_pos h, if_pos h]; simp
  · rw [if_neg h, if_neg h]; simp
theorem num_ct {C C' : Cd} {vs vs' : List Value} {o : Nat} (hst : CSt C vs (.num o) C' vs') {v : Value} {h : Hp} (hok : CdOk C v h) (hl : C'.b.length ≤ 1099511627776) {c b T : Nat} :
    Ct Tryz.prog 70 [.pointer (some ⟨c, 0, none⟩), .pointer (some ⟨b, o, none⟩)] [CBk c C v, [(b, .cells vs.toArray T (0, 0))], h] (fun _ H' => ∃ v' h', H' = [CBk c C' v', [(b, .cells vs'.toArray T (0, 0))], h'] ∧ CdOk C' v' h' ∧ (C.rd = true → v' = v ∧ h' = h)) := by
  cases hst with
  | @w u hr hv ok =>
    obtain ⟨n, rfl⟩ := ok
    rw [← Cd.num_eq] at hl ⊢
    refine Ct.mono (numW_ct hr (hok.w hr) hv hok.l) ?_
    rintro r H' ⟨v', h', rfl, hs⟩
    have hrd : (C.num n).rd = C.rd := by unfold Cd.num; split <;> rfl
    exact ⟨v', h', rfl, ⟨fun e => (by rw [hrd, hr] at e; cases e), fun _ => hs, hl⟩, fun e => by rw [hr] at e; cases e⟩
  | @r u u0 e rest hr hv ok0 ok he hd =>
    obtain ⟨n, rfl⟩ := ok
    obtain ⟨n0, rfl⟩ := ok0
    have hv : vs[o]? = some (.int .i64 n0) := hv
    have hne : ¬ (n < 0 ∨ 4611686018427387904 < n) := fun hc => by rw [encI_num, if_pos hc] at he; cases he
    have he : e = encN n.toNat := by rw [encI_num, if_neg hne] at he; exact (Option.some.inj he).symm
    subst he
    obtain ⟨m, rfl⟩ : ∃ m : Nat, n = (m : Int) := ⟨n.toNat, by omega⟩
    rw [Int.toNat_natCast] at hd hl ⊢
    have ht := take_ct (c := c) (hok.r hr) (n := m) (by omega) hd hok.l
    obtain ⟨B, p, rd, bad, arg, long⟩ := C
    simp only [] at hr hl ht hok ⊢
    subst hr
    have hlt : Nat.blt o vs.length = true := Nat.ble_eq_true_of_le (List.getElem?_eq_some_iff.1 hv).1
    refine Ct.pack (pre := [CBr c v p true bad arg long, [(b, .cells vs.toArray T (0, 0))], h]) (post := fun r H' => H' = [CBr c v (p + (encN m).length) true bad arg long, [(b, .cells (vs.set o (.int .i64 (m : Int))).toArray T (0, 0))], h]) ?_ rfl
      (fun r H' e => ⟨_, rfl, v, h, e, ⟨fun _ => hok.r rfl, fun e => (by cases e), hl⟩, fun _ => ⟨rfl, rfl⟩⟩)
    have ht : Ct Tryz.prog 97 [.pointer (some ⟨c, 0, none⟩)] [CBr c v p true bad arg long, h] (fun r H' => r = .int .i64 (m : Int) ∧ H' = [CBr c v (p + (encN m).length) true bad arg long, h]) := ht
    refine Ct.mk' Tryz.func70 rfl rfl rfl (fun g R => ?_)
    try simp only [List.cons_append]
    simp only [List.nil_append]
    repeat' (first | refine go ?_ | refine mv ?_ | (refine I.ld ?_; refine ld rfl ?_) | (refine I.fa ?_; refine fa ?_) | (refine I.nc ?_; refine nc ?_) | (refine I.cond ?_; refine cT ?_) | fail)
    refine WX.call rfl ht rfl ?_
    rintro _ _ ⟨rfl, rfl⟩
    simp only [List.cons_append, List.nil_append]
    repeat' (first | refine go ?_ | (refine I.nc ?_; refine nc ?_) | (refine I.st ?_; refine WX.store rfl rfl rfl hlt ?_) | fail)
    exact D.fin0 [CBr c v (p + (encN m).length) true bad arg long, [(b, .cells (vs.set o (.int .i64 (m : Int))).toArray T (0, 0))], h] _ rfl rfl
end Go.Proofs.YtihaajncebdioaaGreat

/-
  Rows of items; numbers.
-/
set_option linter.unusedVariables false
set_option linter.unusedSimpArgs false
namespace Go.Proofs.YtihaajncebdioaaGreat
open Go Go.Sl

inductive CRun : Cd → List Value → List It → Cd → List Value → Prop
  | nil {C : Cd} {vs : List Value} : CRun C vs [] C vs
  | cons {C C1 C2 : Cd} {vs vs1 vs2 : List Value} {it : It} {its : List It} (h : CSt C vs it C1 vs1) (t : CRun C1 vs1 its C2 vs2) : CRun C vs (it :: its) C2 vs2
theorem CSt.facts {C C' : Cd} {vs vs' : List Value} {it : It} (h : CSt C vs it C' vs') : C'.rd = C.rd ∧ C.b.length ≤ C'.b.length ∧ vs'.length = vs.length ∧ (C.rd = true → C'.b = C.b) ∧ (C.rd = false → vs' = vs) := by
  cases h with
  | w hr hv ok => exact ⟨rfl, by simp, rfl, fun e => (by rw [hr] at e; cases e), fun _ => rfl⟩
  | r hr hv ok0 ok he hd => exact ⟨rfl, Nat.le_refl _, by simp, fun _ => rfl, fun e => (by rw [hr] at e; cases e)⟩
theorem CRun.facts {C C' : Cd} {vs vs' : List Value} {its : List It} (h : CRun C vs its C' vs') : C'.rd = C.rd ∧ C.b.length ≤ C'.b.length ∧ vs'.length = vs.length ∧ (C.rd = true → C'.b = C.b) ∧ (C.rd = false → vs' = vs) := by
  induction h with
  | nil => exact ⟨rfl, Nat.le_refl _, rfl, fun _ => rfl, fun _ => rfl⟩
  | cons h t ih =>
    obtain ⟨a1, a2, a3, a4, a5⟩ := h.facts
    obtain ⟨b1, b2, b3, b4, b5⟩ := ih
    exact ⟨b1.trans a1, Nat.le_trans a2 b2, b3.trans a3, fun e => (b4 (a1.trans e)).trans (a4 e), fun e => (b5 (a1.trans e)).trans (a5 e)⟩
theorem CRun.append {C C1 C2 : Cd} {vs vs1 vs2 : List Value} {is1 is2 : List It} (h1 : CRun C vs is1 C1 vs1) (h2 : CRun C1 vs1 is2 C2 vs2) : CRun C vs (is1 ++ is2) C2 vs2 := by
  induction h1 with
  | nil => exact h2
  | cons h t ih => exact .cons h (ih h2)
theorem CRun.split {C C2 : Cd} {vs vs2 : List Value} {is1 is2 : List It} (h : CRun C vs (is1 ++ is2) C2 vs2) : ∃ C1 vs1, CRun C vs is1 C1 vs1 ∧ CRun C1 vs1 is2 C2 vs2 := by
  induction is1 generalizing C vs with
  | nil => exact ⟨C, vs, .nil, h⟩
  | cons i r ih =>
    cases h with
    | cons h t =>
      obtain ⟨C1, vs1, h1, h2⟩ := ih t
      exact ⟨C1, vs1, .cons h h1, h2⟩

/-- Where the coder is, behind items: what it has, what was read. -/
abbrev CPost (c b T : Nat) (C C' : Cd) (v : Value) (h : Hp) (vs' : List Value) (X : HH) : Value → HH → Prop :=
  fun _ H' => ∃ v' h', H' = CBk c C' v' :: [(b, .cells vs'.toArray T (0, 0))] :: h' :: X ∧ CdOk C' v' h' ∧ (C.rd = true → v' = v ∧ h' = h)
/-- A pointer to a cell, as an element of a slice. -/
structure Pv where
  b : Nat
  o : Nat
instance : Enc Pv := ⟨1, fun s => [.pointer (some ⟨s.b, s.o, none⟩)], fun _ => rfl, fun _ => rfl, by decide⟩

theorem numbers_ct {C C' : Cd} {vs vs' : List Value} {os : List Nat} (hrun : CRun C vs (os.map .num) C' vs') {v : Value} {h : Hp} (hok : CdOk C v h) (hl : C'.b.length ≤ 1099511627776) {c b T : Nat}
    {u : Value} {hu : Hp} (hps : Rs (os.map (Pv.mk b)) u hu) (hn : os.length ≤ 1099511627776) :
    Ct Tryz.prog 98 [.pointer (some ⟨c, 0, none⟩), u] [CBk c C v, [(b, .cells vs.toArray T (0, 0))], h, hu] (CPost c b T C C' v h vs' [hu]) := by
  have hol : (os.map (Pv.mk b)).length = os.length := List.length_map _
  refine Ct.mk' Tryz.func98 rfl rfl rfl (fun g R => ?_)
  try simp only [List.cons_append]
  simp only [List.nil_append]
  repeat' (first | refine go ?_ | refine mv ?_ | (refine I.bi ?_; refine ln rfl (by assumption) ?_) | fail)
  refine W.loop (α := Nat × Cd × List Value × Value × Hp) (fun x => x.1 ≤ os.length ∧ CRun x.2.1 x.2.2.1 ((os.drop x.1).map .num) C' vs' ∧ CdOk x.2.1 x.2.2.2.1 x.2.2.2.2 ∧ x.2.1.rd = C.rd ∧ (C.rd = true → x.2.2.2.1 = v ∧ x.2.2.2.2 = h))
    (fun x => [(0, .pointer (some ⟨c, 0, none⟩)), (6, u), (7, .int .i64 ((os.map (Pv.mk b)).length : Int)), (8, .int .i64 (x.1 : Int))])
    (fun x => [CBk c x.2.1 x.2.2.2.1, [(b, .cells x.2.2.1.toArray T (0, 0))], x.2.2.2.2, hu, R]) (fun x => os.length - x.1) (0, C, vs, v, h) ⟨Nat.zero_le _, hrun, hok, rfl, fun _ => ⟨rfl, rfl⟩⟩ (by repeat (first | exact Fsub.nil | refine Fsub.cons rfl ?_)) (Hsub.of_picks inferInstance) ?_
  rintro ⟨k, Dk, ws, y, hy⟩ ⟨hk, hr, ok, hrd, hkeep⟩
  simp only [] at hk hr ok hrd hkeep ⊢
  by_cases hlt : k < os.length
  · obtain ⟨o, ho⟩ : ∃ o, os[k]? = some o := ⟨_, List.getElem?_eq_getElem hlt⟩
    obtain ⟨h1, h2⟩ := List.getElem?_eq_some_iff.1 ho
    have hpk : (os.map (Pv.mk b))[k]? = some ⟨b, o⟩ := by rw [List.getElem?_map, ho]; rfl
    rw [List.drop_eq_getElem_cons h1, h2, List.map_cons] at hr
    cases hr with
    | @cons _ D1 _ _ ws1 _ _ _ hst ht =>
      have hf := hst.facts
      have hn1 := num_ct (c := c) (b := b) (T := T) hst ok (Nat.le_trans ht.facts.2.1 hl)
      repeat' (first | refine go ?_ | refine mv ?_ | (refine I.ld ?_; refine lE rfl (by assumption) ?_) | refine asg ?_ | (refine I.bin ?_; refine cm rfl rfl ?_) | (refine I.cond ?_; refine cP ?_) | (refine I.ix ?_; refine ix rfl rfl ?_) | fail)
      refine WX.call rfl hn1 rfl ?_
      rintro _ _ ⟨y', hy', rfl, ok', hk'⟩
      simp only [List.cons_append, List.nil_append]
      repeat' (first | refine go ?_ | refine mv ?_ | (refine I.bin ?_; refine ad ?_) | fail)
      exact D.round (k + 1, D1, ws1, y', hy') ⟨by omega, ht, ok', hf.1.trans hrd, fun e => by
        obtain ⟨e1, e2⟩ := hk' (hrd.trans e)
        obtain ⟨e3, e4⟩ := hkeep e
        exact ⟨e1.trans e3, e2.trans e4⟩⟩ (by simp only []; omega) (by repeat (first | exact Fsub.nil | refine Fsub.cons rfl ?_)) (Hsub.of_picks inferInstance)
  · obtain rfl : k = os.length := by omega
    rw [List.drop_length] at hr
    cases hr
    repeat' (first | refine go ?_ | (refine I.bin ?_; refine cm rfl rfl ?_) | (refine I.cond ?_; refine cN ?_) | fail)
    exact D.finE [CBk c C' y, [(b, .cells vs'.toArray T (0, 0))], hy, hu] _ rfl ⟨y, hy, rfl, ok, hkeep⟩
end Go.Proofs.YtihaajncebdioaaGreat

/-
  Truths and texts.
-/
set_option linter.unusedVariables false
set_option linter.unusedSimpArgs false
namespace Go.Proofs.YtihaajncebdioaaGreat
open Go Go.Sl

def bit (t : Bool) : Nat := if t = true then 1 else 0
theorem encI_bit (t : Bool) : encI (.num 0) (.int .i64 (bit t : Nat)) = some (encN (bit t)) := by
  rw [encI_num, if_neg (by cases t <;> decide)]
  rfl
theorem encI_tru {o : Nat} (t : Bool) : encI (.tru o) (.bool t) = some (encN (bit t)) := rfl
theorem set_self {vs : List Value} {o : Nat} {u : Value} (h : vs[o]? = some u) : vs.set o u = vs := by
  obtain ⟨h1, h2⟩ := List.getElem?_eq_some_iff.1 h
  rw [← h2]; exact List.set_getElem_self h1
theorem tru_split {C C' : Cd} {vs vs' : List Value} {o : Nat} (h : CSt C vs (.tru o) C' vs') :
    ∃ (t0 t : Bool) (n0 n : Int), n0 = (if t0 = true then 1 else 0) ∧ n = (if t = true then 1 else 0) ∧ vs[o]? = some (.bool t0) ∧ CSt C [.int .i64 n0] (.num 0) C' [.int .i64 n] ∧ vs' = vs.set o (.bool t) := by
  have hb : ∀ t : Bool, ((bit t : Nat) : Int) = (if t = true then 1 else 0) := fun t => by cases t <;> rfl
  cases h with
  | @w u hr hv ok =>
    obtain ⟨t, rfl⟩ := ok
    refine ⟨t, t, _, _, hb t, hb t, hv, ?_, (set_self hv).symm⟩
    have := CSt.w (C := C) (vs := [.int .i64 (bit t : Nat)]) (it := .num 0) hr rfl ⟨_, rfl⟩
    rw [encI_bit] at this
    exact this
  | @r u u0 e rest hr hv ok0 ok he hd =>
    obtain ⟨t, rfl⟩ := ok
    obtain ⟨t0, rfl⟩ := ok0
    refine ⟨t0, t, _, _, hb t0, hb t, hv, ?_, rfl⟩
    rw [encI_tru] at he
    exact CSt.r (vs := [.int .i64 (bit t0 : Nat)]) (it := .num 0) (u := .int .i64 (bit t : Nat)) hr rfl ⟨_, rfl⟩ ⟨_, rfl⟩ (by rw [encI_bit]; exact he) hd

theorem truth_ct {C C' : Cd} {vs vs' : List Value} {o : Nat} (hst : CSt C vs (.tru o) C' vs') {v : Value} {h : Hp} (hok : CdOk C v h) (hl : C'.b.length ≤ 1099511627776) {c b T : Nat} :
    Ct Tryz.prog 100 [.pointer (some ⟨c, 0, none⟩), .pointer (some ⟨b, o, none⟩)] [CBk c C v, [(b, .cells vs.toArray T (0, 0))], h] (CPost c b T C C' v h vs' []) := by
  obtain ⟨t0, t, n0, n, e0, e1, hv, hn, rfl⟩ := tru_split hst
  have hlt : Nat.blt o vs.length = true := Nat.ble_eq_true_of_le (List.getElem?_eq_some_iff.1 hv).1
  obtain ⟨B', p', rd', bad', arg', long'⟩ := C'
  refine Ct.mk' Tryz.func100 rfl rfl rfl (fun g R => ?_)
  try simp only [List.cons_append]
  simp only [List.nil_append]
  cases t0 <;> simp only [if_true, if_false, Bool.false_eq_true] at e0 <;> subst e0
  all_goals
    repeat' (first | refine go ?_ | refine mv ?_ | (refine I.nc ?_; refine nc ?_) | (refine I.cond ?_; first | refine cT ?_ | refine cF ?_) | (refine I.st ?_; refine st rfl rfl ?_) | refine al (fun _ => ?_) | (refine I.ld ?_; refine WX.load rfl hv rfl ?_) | fail)
    rename_i nb
    refine WX.call rfl (num_ct (c := c) (b := nb) (T := 3) hn hok hl) rfl ?_
    rintro _ _ ⟨v1, h1, rfl, ok1, keep1⟩
    simp only [List.cons_append, List.nil_append]
    refine WX.flat (H' := [CBr c v1 p' rd' bad' arg' long', _, h1, _, _]) rfl ?_
    cases t <;> simp only [if_true, if_false, Bool.false_eq_true] at e1 <;> subst e1 <;> cases bad'
  all_goals
    repeat' (first | refine go ?_ | refine mv ?_ | (refine I.ld ?_; refine ld rfl ?_) | (refine I.gd ?_; first | refine gy ?_ | refine gn ?_) | (refine I.fa ?_; refine fa ?_) | (refine I.nc ?_; refine nc ?_) | (refine I.bin ?_; refine cm rfl rfl ?_) | (refine I.pk ?_; first | refine pT ?_ | refine pF ?_) | (refine I.st ?_; refine st rfl rfl ?_) | (refine I.st ?_; refine WX.store rfl rfl rfl hlt ?_) | fail)
  all_goals
    try rw [show decide ((1 : Int) = 1) = true from rfl]
    try rw [show decide ((0 : Int) = 1) = false from rfl]
    try rw [show decide ((1 : Int) < 1) = false from rfl]
    try rw [show decide ((1 : Int) < 0) = false from rfl]
    exact D.finE _ _ rfl ⟨v1, h1, rfl, ok1, keep1⟩
end Go.Proofs.YtihaajncebdioaaGreat
