/-
  Bytes and strings, slices that are cut on both sides, append in place, clear, fields of values.
-/
import Derived.Test.YtllopddalmdbjaaSlH
import Derived.Laws.IdiomStrings
set_option linter.unusedVariables false
set_option linter.unusedSimpArgs false
namespace Go.Sl
open Go

section
variable {g : World} {P : Program} {ops : Array Oper} {Q : Exit → Act → World → Prop} {n : Nat} {rest : List Oper} {L : Fm} {H : HH} {q : Bool}
variable {d : Nat} {ty : TypeId} {pos : String} {af : Array Edge} {v v2 : Value}

/-- The bytes as a string. -/
def strOf (xs : List UInt8) : ByteArray := ⟨xs.toArray⟩
theorem strOf_data (s : ByteArray) : strOf s.data.toList = s := by cases s; rfl
theorem data_strOf (xs : List UInt8) : (strOf xs).data.toList = xs := rfl
theorem strOf_inj {xs ys : List UInt8} : strOf xs = strOf ys ↔ xs = ys := by
  constructor
  · intro h
    have := congrArg (fun s : ByteArray => s.data.toList) h
    simpa [strOf] using this
  · rintro rfl; rfl
theorem strOf_size (xs : List UInt8) : (strOf xs).size = xs.length := by simp [strOf, ByteArray.size]

theorem WX.strOf {x : Operand} {t t' e : Nat} {xs : List UInt8} {h : Hp} {K : Hp → HH} (hx : ev L x = some v) (hs : Rs xs v h) [hw : Swp h H K] [h1 : TU P t (.slice e)] [h2 : TU P e (.int .u8)] [h3 : TU P t' .string] (hd : Nat.blt d n = true)
    (kk : WX q g P ops Q n rest ((d, .string (Sl.strOf xs)) :: L) H) : WX q g P ops Q n (⟨some d, .convert t t' x, ty, pos, af, none⟩ :: rest) L H :=
  WX.val (fun a ha w ho => by
    obtain ⟨p, c, rfl, le, f⟩ := hs
    have key : (convert t t' (.slice p xs.length c)).run P w = .ok (.string ⟨xs.toArray⟩) w := by
      cases p with
      | none =>
        have hx : xs = [] := by
          cases xs with
          | nil => rfl
          | cons y r => obtain ⟨b, off, e, _⟩ := f 0 y rfl; cases e
        subst hx
        rw [run_convert_bytes_string w t t' e none _ c h1.h h2.h h3.h]
        simp [Conv.bytesToString]
        rfl
      | some a =>
        refine run_convert_bytes_back w t t' e a c xs h1.h h2.h h3.h (fun j hj => ?_)
        obtain ⟨b, off, e1, e2⟩ := f j _ (List.getElem?_eq_getElem hj)
        cases e1
        rw [add_none]
        have := e2 0 _ rfl g w (hw.onx ho)
        simpa [Enc.sz] using this
    simp only [execOp, ha.ev hx, Sem.run_bind, key, Result.andThen_ok, Sem.run_pure]
    rfl) hd kk

theorem WX.bytesOf {x : Operand} {t t' e : Nat} {s : ByteArray} (hx : ev L x = some (.string s)) [h1 : TU P t .string] [h2 : TU P t' (.slice e)] [h3 : TU P e (.int .u8)] (hd : Nat.blt d n = true)
    (kk : ∀ v' h', IsSl e s.data.toList v' h' → WX false g P ops Q n rest ((d, v') :: L) (h' :: H)) : WX false g P ops Q n (⟨some d, .convert t t' x, ty, pos, af, none⟩ :: rest) L H := by
  refine WX.eff hd fun a w ha ho => ?_
  have hr := run_bytes_of_string (P := P) w t t' e s h1.h h2.h h3.h
  obtain ⟨r, hcap⟩ : ∃ r, grownCap w s.size 0 e = s.size + r := ⟨_, rfl⟩
  have hrow : bytesRow s (grownCap w s.size 0 e) = List.toArray (encs s.data.toList ++ List.replicate r (Value.int .u8 0)) := by
    rw [hcap]
    apply Array.toList_inj.1
    simp only [bytesRow, Nat.add_sub_cancel_left]
    have he : ∀ l : List UInt8, encs l = l.map (fun b => Value.int .u8 (b.toNat : Int)) := by
      intro l
      induction l with
      | nil => rfl
      | cons x r ih =>
        have : encs (x :: r) = Enc.enc x ++ encs r := rfl
        rw [this, ih]; rfl
    rw [he]
    simp
  refine ⟨.slice (some ⟨w.heap.size, 0, none⟩) s.size (grownCap w s.size 0 e), World.alloc w.drew (.cells (bytesRow s (grownCap w s.size 0 e)) e ((bytesRow s (grownCap w s.size 0 e)).size, (bytesRow s (grownCap w s.size 0 e)).size + 1)), [(w.heap.size, .cells (bytesRow s (grownCap w s.size 0 e)) e ((bytesRow s (grownCap w s.size 0 e)).size, (bytesRow s (grownCap w s.size 0 e)).size + 1))] :: H, ?_, ?_, kk _ _ ?_⟩
  · simp only [execOp, ha.ev hx, Sem.run_bind, hr, Result.andThen_ok, Sem.run_pure]
  · have h1 : on g H.flatten w.drew := ho.heap rfl ⟨rfl, rfl, rfl, Nat.le_refl _⟩
    exact h1.alloc _
  · have hsz : s.data.toList.length = s.size := Array.length_toList
    have hrl : (bytesRow s (grownCap w s.size 0 e)).size = s.size + r := by
      rw [hrow, List.size_toArray, List.length_append, encs_len, List.length_replicate, hsz]
      show s.size * 1 + r = _
      rw [Nat.mul_one]
    refine .inr ⟨w.heap.size, s.size + r, List.replicate r (Value.int .u8 0), ((bytesRow s (grownCap w s.size 0 e)).size, (bytesRow s (grownCap w s.size 0 e)).size + 1), ?_, ?_, ?_, ?_, ?_⟩
    · rw [hcap, hsz]
    · rw [hrow]
    · rw [hsz]; omega
    · rw [hsz, List.length_replicate, Nat.add_sub_cancel_left]
      show r = r * 1
      rw [Nat.mul_one]
    · right
      rw [hrl]
      show (s.size + r) * 1 ≤ s.size + r
      rw [Nat.mul_one]
      exact Nat.le_refl _

section strs
variable {x y : Operand} {t t' : Nat} {a b : ByteArray}
theorem run_eqGuard_str {op : BinOp} {w : World} : (eqGuard op t x y (.string a) (.string b)).run P w = .ok () w := by
  unfold eqGuard; cases op <;> rfl
theorem WX.eqlS (hx : ev L x = some (.string a)) (hy : ev L y = some (.string b)) (hd : Nat.blt d n = true) [ht : TU P t .string]
    (k : WX q g P ops Q n rest ((d, .bool (decide (a = b))) :: L) H) : WX q g P ops Q n (⟨some d, .binOp .eql t x y t', ty, pos, af, none⟩ :: rest) L H :=
  WX.val (fun ac ha w _ => run_bin (ha.ev hx) (ha.ev hy) run_eqGuard_str (by
    rw [binOp_string_eql, Sem.run_pure, ← beq_toListBytes, beq_bytes])) hd k
theorem WX.neqS (hx : ev L x = some (.string a)) (hy : ev L y = some (.string b)) (hd : Nat.blt d n = true) [ht : TU P t .string]
    (k : WX q g P ops Q n rest ((d, .bool (decide (¬ a = b))) :: L) H) : WX q g P ops Q n (⟨some d, .binOp .neq t x y t', ty, pos, af, none⟩ :: rest) L H :=
  WX.val (fun ac ha w _ => run_bin (ha.ev hx) (ha.ev hy) run_eqGuard_str (by
    rw [binOp_string_neq, Sem.run_pure, ← beq_toListBytes, beq_bytes]
    simp)) hd k
end strs

-- slices against nil
section nilsl
variable {x y : Operand} {t t' e : Nat} {p : Option Addr} {l c : Nat}
theorem run_eqGuard_sl {op : BinOp} {w : World} {u : Value} : (eqGuard op t x y (.slice p l c) (.slice none 0 0)).run P w = .ok () w := by
  unfold eqGuard; cases op <;> rfl
theorem run_equalIn_sl {w : World} (k : Nat) [ht : TU P t (.slice e)] : (Op.equalIn (k + 1) t (.slice p l c) (.slice none 0 0)).run P w = .ok p.isNone w := by
  cases p <;> simp [Op.equalIn, ht.run]
theorem WX.eqlN (hx : ev L x = some (.slice p l c)) (hy : ev L y = some (.slice none 0 0)) (hd : Nat.blt d n = true) [ht : TU P t (.slice e)]
    (k : WX q g P ops Q n rest ((d, .bool p.isNone) :: L) H) : WX q g P ops Q n (⟨some d, .binOp .eql t x y t', ty, pos, af, none⟩ :: rest) L H :=
  WX.val (fun ac ha w _ => run_bin (ha.ev hx) (ha.ev hy) (run_eqGuard_sl (u := undef)) (by
    show ((do pure (.bool (← Op.equalIn 10000 t (.slice p l c) (.slice none 0 0))) : Sem Value)).run P w = _
    rw [Sem.run_bind, run_equalIn_sl (t := t) (e := e) 9999]; rfl)) hd k
theorem WX.neqN (hx : ev L x = some (.slice p l c)) (hy : ev L y = some (.slice none 0 0)) (hd : Nat.blt d n = true) [ht : TU P t (.slice e)]
    (k : WX q g P ops Q n rest ((d, .bool (!p.isNone)) :: L) H) : WX q g P ops Q n (⟨some d, .binOp .neq t x y t', ty, pos, af, none⟩ :: rest) L H :=
  WX.val (fun ac ha w _ => run_bin (ha.ev hx) (ha.ev hy) (run_eqGuard_sl (u := undef)) (by
    show ((do pure (.bool (!(← Op.equalIn 10000 t (.slice p l c) (.slice none 0 0)))) : Sem Value)).run P w = _
    rw [Sem.run_bind, run_equalIn_sl (t := t) (e := e) 9999]; rfl)) hd k
end nilsl

-- slices that are cut
/-- v[lo:hi:mx], of elements of m cells. -/
def slCut (v : Value) (m lo hi mx : Nat) : Value := match v with
  | .slice a _ _ => .slice (if mx = lo then a else a.map (·.add (lo * m))) (hi - lo) (mx - lo)
  | _ => v
def slCap : Value → Nat
  | .slice _ _ c => c
  | _ => 0
def slBase : Value → Option Addr
  | .slice a _ _ => a
  | _ => none
theorem slCut_eq (a : Option Addr) (l c m lo hi mx : Nat) : slCut (.slice a l c) m lo hi mx = .slice (if mx = lo then a else a.map (·.add (lo * m))) (hi - lo) (mx - lo) := rfl

section cut
variable {x i j k3 : Operand} {t e m lo hi mx : Nat} {ag : Bool} {kd kd' kd3 : IntKind} {p : Option Addr} {l c : Nat}
theorem bound_ok {w : World} {kd : IntKind} {k y : Nat} {code : BoundsCode} (h : k ≤ y) : (Instr.sliceBound (.int kd (k : Int)) y code).run P w = .ok k w := by
  have : (0 : Int) ≤ (k : Int) ∧ (k : Int) ≤ (y : Int) := ⟨by omega, by omega⟩
  simp [Instr.sliceBound, asIntOf, h]
theorem WX.cut2 (hx : ev L x = some (.slice p l c)) (hi' : ev L i = some (.int kd (lo : Int))) (hj' : ev L j = some (.int kd' (hi : Int))) (h1 : lo ≤ hi) (h2 : hi ≤ c) [ht : TU P t (.slice e)] [hl : TL P e m ag]
    (hd : Nat.blt d n = true) (kk : WX q g P ops Q n rest ((d, slCut (.slice p l c) m lo hi c) :: L) H) : WX q g P ops Q n (⟨some d, .slice t x (some i) (some j) none, ty, pos, af, none⟩ :: rest) L H :=
  WX.val (fun a' ha w hw => by
    simp [execOp, ha.ev hx, ha.ev hi', ha.ev hj', Instr.sliceAt, Instr.slice, Instr.sliceBounds, bound_ok h1, bound_ok h2, ht.run, hl.sizeOf, slCut]) hd kk
theorem WX.cut3 (hx : ev L x = some (.slice p l c)) (hi' : ev L i = some (.int kd (lo : Int))) (hj' : ev L j = some (.int kd' (hi : Int))) (hk' : ev L k3 = some (.int kd3 (mx : Int))) (h1 : lo ≤ hi) (h2 : hi ≤ mx) (h3 : mx ≤ c) [ht : TU P t (.slice e)] [hl : TL P e m ag]
    (hd : Nat.blt d n = true) (kk : WX q g P ops Q n rest ((d, slCut (.slice p l c) m lo hi mx) :: L) H) : WX q g P ops Q n (⟨some d, .slice t x (some i) (some j) (some k3), ty, pos, af, none⟩ :: rest) L H :=
  WX.val (fun a' ha w hw => by
    simp [execOp, ha.ev hx, ha.ev hi', ha.ev hj', ha.ev hk', Instr.sliceAt, Instr.slice, Instr.sliceBounds, bound_ok h1, bound_ok h2, bound_ok h3, ht.run, hl.sizeOf, slCut]) hd kk
theorem WX.cutFrom (hx : ev L x = some (.slice p l c)) (hi' : ev L i = some (.int kd (lo : Int))) (h1 : lo ≤ l) (h2 : l ≤ c) [ht : TU P t (.slice e)] [hl : TL P e m ag]
    (hd : Nat.blt d n = true) (kk : WX q g P ops Q n rest ((d, slCut (.slice p l c) m lo l c) :: L) H) : WX q g P ops Q n (⟨some d, .slice t x (some i) none none, ty, pos, af, none⟩ :: rest) L H :=
  WX.val (fun a' ha w hw => by
    simp [execOp, ha.ev hx, ha.ev hi', Instr.sliceAt, Instr.slice, Instr.sliceBounds, bound_ok h1, ht.run, hl.sizeOf, slCut]) hd kk
end cut

section cuts
variable {α : Type} [E : Enc α] {xs ys : List α} {y : α} {T k m : Nat} {h : Hp}
/-- A piece of it reads as the piece. -/
theorem Rs.cut (hs : Rs xs v h) (hm : m = Enc.sz α) {lo hi mx : Nat} (h1 : lo ≤ hi) (h2 : hi ≤ xs.length) (h3 : hi ≤ mx) : Rs ((xs.drop lo).take (hi - lo)) (slCut v m lo hi mx) h := by
  subst hm
  obtain ⟨a, c, rfl, le, f⟩ := hs
  have hl : ((xs.drop lo).take (hi - lo)).length = hi - lo := by rw [List.length_take, List.length_drop]; omega
  refine ⟨_, _, by rw [slCut_eq, hl], by omega, fun k y hk => ?_⟩
  have hlt := (List.getElem?_eq_some_iff.1 hk).1
  rw [hl] at hlt
  rw [List.getElem?_take, if_pos hlt, List.getElem?_drop] at hk
  obtain ⟨b, off, e1, e2⟩ := f (lo + k) y hk
  refine ⟨b, off + lo * Enc.sz α, ?_, fun j u hu g w ho => ?_⟩
  · rw [if_neg (by omega), e1]; simp [add_none]
  · rw [← e2 j u hu g w ho]; congr 2; rw [Nat.add_mul]; omega
theorem Rs.from (hs : Rs xs v h) (hm : m = Enc.sz α) {lo : Nat} (h1 : lo ≤ xs.length) : Rs (xs.drop lo) (slCut v m lo xs.length (slCap v)) h := by
  obtain ⟨a, c, e, le, f⟩ := id hs
  have := hs.cut hm h1 (Nat.le_refl _) (mx := slCap v) (by rw [e]; exact le)
  rwa [List.take_of_length_le (by rw [List.length_drop]; omega)] at this

/-- append, where there is room: the same block, the same room. -/
theorem run_appendIn {t t2 bytes : Nat} {ag : Bool} {v2 : Value} {ty : TypeId} {d2 : TypeDesc} [ht : TU P t (.slice T)] [ht2 : TU P t2 d2] (hd2 : ∀ k, d2 ≠ .int k)
    [hl : TL P T m ag] (hm : m = Enc.sz α) {b cap : Nat} {sp : List Value} {fr : Nat × Nat} (h1 : xs.length ≤ cap) (h2 : sp.length = (cap - xs.length) * Enc.sz α) (h3 : Free fr (cap * Enc.sz α)) {w : World}
    (hh : w.heap[b]? = some (.cells (List.toArray (encs xs ++ sp)) T fr)) (s1 : Src P (Enc.sz α) v2 ys.length (encs ys) w) (hfit : xs.length + ys.length ≤ cap) :
    ∃ w' o, (Builtin.append_ #[t, t2] ty #[.slice (some ⟨b, 0, none⟩) xs.length cap, v2]).run P w = .ok (.slice (some ⟨b, 0, none⟩) (xs.length + ys.length) cap) w' ∧ Amb w w' ∧ w'.heap[b]? = some o ∧ (∀ k, k ≠ b → w'.heap[k]? = w.heap[k]?) ∧
      o = .cells (List.toArray (encs (xs ++ ys) ++ sp.drop (ys.length * Enc.sz α))) T fr := by
  subst hm
  have hlen : (encs xs ++ sp).length = cap * Enc.sz α := by rw [List.length_append, encs_len, h2, ← Nat.add_mul]; congr 1; omega
  have hfit2 : xs.length * Enc.sz α + ys.length * Enc.sz α ≤ cap * Enc.sz α := by rw [← Nat.add_mul]; exact Nat.mul_le_mul_right _ hfit
  obtain ⟨w', e1, e2, e3, e4⟩ := run_storeCellsF (P := P) (encs ys) (xs.length * Enc.sz α) 0 _ w hh (by rw [hlen]; exact h3) (by rw [hlen, encs_len]; simpa using hfit2) (encs_one ys)
  have hints : (match (generalizing := false) d2 with | .int _ => true | _ => false) = false := by cases d2 <;> first | rfl | exact absurd rfl (hd2 _)
  refine ⟨w', _, ?_, e2, e3, e4, ?_⟩
  · simp [Builtin.append_, ht.run, ht2.run, hl.sizeOf, hints, s1.len, s1.cells, hfit, add_none, e1]
  · congr 2
    rw [Nat.add_zero, ← encs_len xs, show (encs xs).length = (encs xs).length + 0 from rfl, setAt_append_right, encs_append, List.append_assoc]
    congr 1
    have hsp : sp = sp.take (ys.length * Enc.sz α) ++ sp.drop (ys.length * Enc.sz α) := (List.take_append_drop _ _).symm
    have hspl : ys.length * Enc.sz α ≤ sp.length := by rw [h2]; exact Nat.mul_le_mul_right _ (by omega)
    conv => lhs; rw [hsp]
    rw [setAt_append_left _ _ _ _ (by rw [encs_len, List.length_take, Nat.min_eq_left hspl]; omega)]
    congr 1
    have := setAt_all (encs ys) (sp.take (ys.length * Enc.sz α)) 0 [] rfl (by rw [List.length_take, Nat.min_eq_left hspl, encs_len])
    simpa using this
theorem WX.appIn {x z : Operand} {t t2 b cap nx : Nat} {ag : Bool} {e2 : Nat} {cs sp : List Value} {fr : Nat × Nat} {K : Obj → HH} (hx : ev L x = some (.slice (some ⟨b, 0, none⟩) nx cap)) (hz : ev L z = some v2)
    [hf : Foc b (.cells (List.toArray cs) T fr) H K] (hs2 : Rs ys v2 [(b, .cells (List.toArray cs) T fr)]) [ht : TU P t (.slice T)] [ht2 : TU P t2 (.slice e2)] [hl : TL P T m ag] (hm : m = Enc.sz α) (hn : nx = xs.length) (hcs : cs = encs xs ++ sp)
    (h1 : xs.length ≤ cap) (h2 : sp.length = (cap - xs.length) * Enc.sz α) (h3 : Free fr (cap * Enc.sz α)) (hfit : xs.length + ys.length ≤ cap) (hd : Nat.blt d n = true)
    (kk : WX false g P ops Q n rest ((d, .slice (some ⟨b, 0, none⟩) (xs.length + ys.length) cap) :: L) (K (.cells (List.toArray (encs (xs ++ ys) ++ sp.drop (ys.length * Enc.sz α))) T fr))) :
    WX false g P ops Q n (⟨some d, .call ⟨.builtin .append, #[x, z], #[t, t2]⟩, ty, pos, af, none⟩ :: rest) L H := by
  subst hn; subst hcs
  refine WX.eff hd fun a w ha ho => ?_
  have hh := hf.heap ho
  have s1 : Src P (Enc.sz α) v2 ys.length (encs ys) w := hs2.src (g := w) ⟨Amb.refl w, by simp, fun b' o hm => by
    rw [List.mem_singleton] at hm; cases hm; exact hh⟩
  obtain ⟨w', o, hr, ham, e1, e2, rfl⟩ := run_appendIn (ty := ty) (t := t) (t2 := t2) (bytes := 0) (by intro k hk; cases hk) hm h1 h2 h3 hh s1 hfit
  exact ⟨_, w', _, run_bi (args := [x, z]) (vs := [.slice (some ⟨b, 0, none⟩) xs.length cap, v2]) (by simp [ha.ev hx, ha.ev hz]) (by simp [builtin, hr]), hf.set ho ham e1 e2, kk⟩

theorem rep_one {zs : List Value} (h1 : oneCells zs = true) : ∀ k, oneCells (List.replicate k zs).flatten = true
  | 0 => rfl
  | k + 1 => by
    simp only [List.replicate_succ, List.flatten_cons, oneCells, List.all_append, Bool.and_eq_true]
    exact ⟨h1, rep_one h1 k⟩
/-- clear, of elements of a block. -/
theorem WX.clearB {x : Operand} {t b off len c : Nat} {zs : List Value} {cs : List Value} {fr : Nat × Nat} {K : Obj → HH} (hx : ev L x = some (.slice (some ⟨b, off, none⟩) len c)) [ht : TU P t (.slice T)] [hz : TZ P T zs]
    [hf : Foc b (.cells (List.toArray cs) T fr) H K] (h3 : Free fr cs.length) (hp : 0 < len) (hb : off + len * zs.length ≤ cs.length) (h1 : oneCells zs = true)
    (kk : WX false g P ops Q n rest L (K (.cells (List.toArray (setAt cs off (List.replicate len zs).flatten)) T fr))) :
    WX false g P ops Q n (⟨none, .call ⟨.builtin .clear, #[x], #[t]⟩, ty, pos, af, none⟩ :: rest) L H :=
  WX.effN (fun a w ha ho => by
    obtain ⟨z, hz1, hz2⟩ := hz.run (w := w)
    have hone := rep_one h1 len
    have hlen : (List.replicate len zs).flatten.length = len * zs.length := by simp
    obtain ⟨w', e1, e2, e3, e4⟩ := run_storeCellsF (P := P) (List.replicate len zs).flatten off 0 cs w (hf.heap ho) h3 (by rw [hlen]; omega) hone
    refine ⟨.tuple #[], w', _, run_bi (args := [x]) (vs := [.slice (some ⟨b, off, none⟩) len c]) (by simp [ha.ev hx]) ?_, hf.set ho e2 (by simpa using e3) e4, kk⟩
    obtain ⟨l', rfl⟩ : ∃ l', len = l' + 1 := ⟨len - 1, by omega⟩
    have hzc : (Builtin.zeroCells z.cells (l' + 1)).toList = (List.replicate (l' + 1) zs).flatten := by
      by_cases h0 : zs.length = 0
      · have : zs = [] := List.length_eq_zero_iff.1 h0
        subst this
        simp [Builtin.zeroCells, hz2]
      · have := range_zeros zs zs.length rfl (by omega) (l' + 1)
        rw [← this]
        simp [Builtin.zeroCells, hz2]
    simp [builtin, Builtin.clear_, ht.run, hz1, hzc, e1])
end cuts
end
end Go.Sl
