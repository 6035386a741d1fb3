/-
  Slices that a call owns, more: append, make, literals, prefixes.
-/
import Derived.Test.YtllopddalmdbjaaSlD
set_option linter.unusedVariables false
set_option linter.unusedSimpArgs false
namespace Go.Sl
open Go

/-- What an append takes from its second argument, in this world: n elements, these cells. -/
structure Src (P : Program) (sz : Nat) (v : Value) (n : Nat) (cells : List Value) (w : World) : Prop where
  len : (Builtin.lenOf v).run P w = .ok n w
  cells : (Builtin.firstCells sz n v).run P w = .ok cells.toArray w

section
variable {α : Type} [E : Enc α] {P : Program} {g : World}
theorem IsSl.src {T : Nat} {xs : List α} {v : Value} {h : Hp} {w : World} (hs : IsSl T xs v h) (ho : ∀ b o, (b, o) ∈ h → w.heap[b]? = some o) : Src P (Enc.sz α) v xs.length (encs xs) w := by
  rcases hs with ⟨rfl, rfl, rfl⟩ | ⟨b, cap, sp, fr, rfl, rfl, h1, h2, h3⟩
  · exact ⟨by simp [Builtin.lenOf], by simp [Builtin.firstCells, encs]⟩
  · refine ⟨by simp [Builtin.lenOf], ?_⟩
    have hh := ho b _ (List.mem_cons_self)
    have := run_loadCells_list (P := P) w ⟨b, 0, none⟩ (encs xs) (fun j u hu => by
      rw [add_none, Nat.zero_add, cell_bk hh, List.getElem?_append_left (List.getElem?_eq_some_iff.1 hu).1, hu])
    rw [encs_len] at this
    simpa [Builtin.firstCells] using this
theorem encs_get_div {xs : List α} {j : Nat} (hj : j < xs.length * Enc.sz α) : ∃ y, xs[j / Enc.sz α]? = some y ∧ (encs xs)[j]? = (Enc.enc y)[j % Enc.sz α]? := by
  have hp := Enc.pos (α := α)
  have hk : j / Enc.sz α < xs.length := (Nat.div_lt_iff_lt_mul hp).2 hj
  refine ⟨xs[j / Enc.sz α], List.getElem?_eq_getElem hk, ?_⟩
  have := encs_get (List.getElem?_eq_getElem hk) (Nat.mod_lt j hp) []
  rw [List.append_nil] at this
  rw [← this]
  congr 1
  rw [Nat.mul_comm]; exact (Nat.div_add_mod j _).symm
theorem Rs.src {xs : List α} {v : Value} {h : Hp} {w : World} (hs : Rs xs v h) {g : World} (ho : on g h w) : Src P (Enc.sz α) v xs.length (encs xs) w := by
  obtain ⟨a, c, rfl, le, f⟩ := hs
  refine ⟨by simp [Builtin.lenOf], ?_⟩
  cases a with
  | none =>
    have hx : xs = [] := by
      cases xs with
      | nil => rfl
      | cons y r => obtain ⟨b, off, e, _⟩ := f 0 y rfl; cases e
    subst hx
    simp [Builtin.firstCells, encs]
  | some a =>
    have := run_loadCells_list (P := P) w a (encs xs) (fun j u hu => by
      have hj := (List.getElem?_eq_some_iff.1 hu).1
      rw [encs_len] at hj
      obtain ⟨y, hy, he⟩ := encs_get_div hj
      obtain ⟨b, off, e, f2⟩ := f _ y hy
      cases e
      rw [add_none]
      have := f2 _ u (by rw [← he]; exact hu) g w ho
      rwa [show off + (j / Enc.sz α * Enc.sz α + j % Enc.sz α) = off + j by rw [Nat.mul_comm, Nat.div_add_mod]] at this)
    rw [encs_len] at this
    simpa [Builtin.firstCells] using this
theorem strs_src {s : ByteArray} {w : World} : Src P 1 (.string s) s.size (encs s.data.toList) w := by
  refine ⟨by simp [Builtin.lenOf], ?_⟩
  have e : (s.extract 0 s.size) = s := by simp
  simp only [Builtin.firstCells, e, Sem.run_pure]
  congr 1
  simp only [encs, Enc.enc]
  apply Array.toList_inj.1
  simp [List.flatMap_def, List.flatten, List.map_map]
  induction s.data.toList with
  | nil => rfl
  | cons x r ih => simp [ih]

theorem range_zeros (zs : List Value) (m : Nat) (hm : zs.length = m) (hp : 0 < m) : ∀ n, (List.range (n * m)).map (fun i => (zs.toArray)[i % m]!) = (List.replicate n zs).flatten
  | 0 => by simp
  | n + 1 => by
    rw [Nat.succ_mul, List.range_add, List.map_append, range_zeros zs m hm hp n, List.replicate_succ', List.flatten_append]
    congr 1
    rw [List.map_map]
    simp only [List.flatten_cons, List.flatten_nil, List.append_nil]
    apply List.ext_getElem
    · simp [hm]
    · intro i h1 h2
      simp only [List.getElem_map, List.getElem_range, Function.comp]
      rw [Nat.mul_add_mod_of_lt (by omega)]
      simp [h2]

theorem encs_replicate (n : Nat) (z : α) : encs (List.replicate n z) = (List.replicate n (Enc.enc z)).flatten := by
  simp [encs, List.flatMap_def]

theorem zeroCells_len (z : Array Value) (n : Nat) : (Builtin.zeroCells z n).size = n * z.size := by simp [Builtin.zeroCells]

/-- append: in the room that there is, or into a new block. -/
theorem run_append {T t t2 bytes m : Nat} {ag : Bool} {xs : List α} {v v2 : Value} {h : Hp} {ys : List α} {ty : TypeId} {zs : List Value} {d2 : TypeDesc} [ht : TU P t (.slice T)] [ht2 : TU P t2 d2] (hd2 : ∀ k, d2 ≠ .int k)
    [hl : TL P T m ag] [hb : TB P T bytes] [hz : TZ P T zs] (hm : m = Enc.sz α) (hzl : zs.length = m) (hbp : 0 < bytes) (hs : IsSl T xs v h) {w : World} (hw : ∀ b o, (b, o) ∈ h → w.heap[b]? = some o)
    (hsrc : ∀ w' : World, w'.heap = w.heap → Src P (Enc.sz α) v2 ys.length (encs ys) w')
    (hbd : (2 * (xs.length + ys.length) + 256) * bytes ≤ 281474976710656) :
    ∃ v' w', (Builtin.append_ #[t, t2] ty #[v, v2]).run P w = .ok v' w' ∧ Amb w w' ∧
      ((∃ b o o', h = [(b, o)] ∧ w'.heap[b]? = some o' ∧ (∀ k, k ≠ b → w'.heap[k]? = w.heap[k]?) ∧ IsSl T (xs ++ ys) v' [(b, o')]) ∨
       (h = [] ∧ w'.heap = w.heap ∧ IsSl T (xs ++ ys) v' []) ∨
       (∃ o, w'.heap = w.heap.push o ∧ IsSl T (xs ++ ys) v' [(w.heap.size, o)])) := by
  subst hm
  have hby : ∃ i, P.info? T = some i ∧ i.bytes = bytes := by
    have := hb.s
    cases hi : P.info? T with
    | none => simp [hi] at this
    | some i => exact ⟨i, rfl, by simpa [hi] using this⟩
  obtain ⟨inf, hinf, hbytes⟩ := hby
  obtain ⟨i', z, g1, g2, g3⟩ := hz.h
  have hi' : i' = inf := Option.some.inj (g1.symm.trans hinf)
  subst hi'
  have hzero : ∀ w' : World, (zeroValue T).run P w' = .ok z w' := fun w' => by simp [zeroValue, typeInfo, hinf, g2]
  have hzs : z.cells.size = Enc.sz α := by rw [g3]; simpa using hzl
  have hty : ∀ w' : World, (typeInfo T).run P w' = .ok i' w' := fun w' => by simp [typeInfo, hinf]
  have hold := fun (w' : World) (e : w'.heap = w.heap) => hs.src (P := P) (w := w') (fun b o hm => by rw [e]; exact hw b o hm)
  have hints : (match (generalizing := false) d2 with | .int _ => true | _ => false) = false := by cases d2 <;> first | rfl | exact absurd rfl (hd2 _)
  obtain ⟨base, cap, rfl, hroom⟩ : ∃ base cap, v = .slice base xs.length cap ∧ ((base = none ∧ xs = [] ∧ h = [] ∧ cap = 0) ∨ ∃ b sp fr, base = some ⟨b, 0, none⟩ ∧ h = [(b, .cells (List.toArray (encs xs ++ sp)) T fr)] ∧ xs.length ≤ cap ∧ sp.length = (cap - xs.length) * Enc.sz α ∧ Free fr (cap * Enc.sz α)) := by
    rcases hs with ⟨rfl, rfl, rfl⟩ | ⟨b, cap, sp, fr, rfl, rfl, h1, h2, h3⟩
    · exact ⟨none, 0, rfl, .inl ⟨rfl, rfl, rfl, rfl⟩⟩
    · exact ⟨_, _, rfl, .inr ⟨b, sp, fr, rfl, rfl, h1, h2, h3⟩⟩
  by_cases hfit : xs.length + ys.length ≤ cap
  · rcases hroom with ⟨rfl, rfl, rfl, rfl⟩ | ⟨b, sp, fr, rfl, rfl, h1, h2, h3⟩
    · have hy : ys = [] := by
        cases ys with
        | nil => rfl
        | cons _ _ => simp at hfit
      subst hy
      have s1 := hsrc w rfl
      have s2 := s1.len
      have s3 := s1.cells
      simp only [List.length_nil] at s2 s3
      refine ⟨.slice none 0 0, w, ?_, Amb.refl w, .inr (.inl ⟨rfl, rfl, .inl ⟨rfl, rfl, rfl⟩⟩)⟩
      simp [Builtin.append_, ht.run, ht2.run, hl.sizeOf, hints, s2, s3]
    · have s1 := hsrc w rfl
      have hh := hw b _ (List.mem_cons_self)
      have hlen : (encs xs ++ sp).length = cap * Enc.sz α := by rw [List.length_append, encs_len, h2, ← Nat.add_mul]; congr 1; omega
      have hfit2 : xs.length * Enc.sz α + ys.length * Enc.sz α ≤ cap * Enc.sz α := by rw [← Nat.add_mul]; exact Nat.mul_le_mul_right _ hfit
      obtain ⟨w', e1, e2, e3, e4⟩ := run_storeCellsF (P := P) (encs ys) (xs.length * Enc.sz α) 0 _ w hh (by rw [hlen]; exact h3) (by rw [hlen, encs_len]; simpa using hfit2) (encs_one ys)
      refine ⟨.slice (some ⟨b, 0, none⟩) (xs.length + ys.length) cap, w', ?_, e2, .inl ⟨b, _, _, rfl, e3, e4, .inr ⟨b, cap, sp.drop (ys.length * Enc.sz α), fr, by simp, ?_, by simpa using hfit, ?_, h3⟩⟩⟩
      · simp [Builtin.append_, ht.run, ht2.run, hl.sizeOf, hints, s1.len, s1.cells, hfit, add_none, e1]
      · congr 4
        rw [Nat.add_zero, ← encs_len xs, show (encs xs).length = (encs xs).length + 0 from rfl, setAt_append_right, encs_append, List.append_assoc]
        congr 1
        have hsp : sp = sp.take (ys.length * Enc.sz α) ++ sp.drop (ys.length * Enc.sz α) := (List.take_append_drop _ _).symm
        have hspl : ys.length * Enc.sz α ≤ sp.length := by rw [h2]; exact Nat.mul_le_mul_right _ (by omega)
        conv => lhs; rw [hsp]
        rw [setAt_append_left _ _ _ _ (by rw [encs_len, List.length_take, Nat.min_eq_left hspl]; omega)]
        congr 1
        have := setAt_all (encs ys) (sp.take (ys.length * Enc.sz α)) 0 [] rfl (by rw [List.length_take, Nat.min_eq_left hspl, encs_len])
        simpa using this
      · rw [List.length_drop, h2, ← Nat.sub_mul, List.length_append]; congr 1; omega
  · have hcap : ¬ (xs.length + ys.length ≤ cap) := hfit
    have hn := nextcap_le (xs.length + ys.length) cap (by omega)
    have hbig : ¬ (Builtin.nextslicecap (xs.length + ys.length) cap * bytes > 281474976710656) := by
      have := Nat.mul_le_mul_right bytes hn; omega
    have s1 := hsrc w rfl
    have e1 := (hold w.drew rfl).cells
    have e2 := (hsrc w.drew rfl).cells
    have hcut : ∃ r, (Question.appendCap (xs.length + ys.length) cap T).cut (w.tape w.drawn (Question.appendCap (xs.length + ys.length) cap T)) = xs.length + ys.length + r := ⟨_, rfl⟩
    obtain ⟨r, hr⟩ := hcut
    refine ⟨.slice (some ⟨w.heap.size, 0, none⟩) (xs.length + ys.length) (xs.length + ys.length + r), World.alloc w.drew (.cells (List.toArray (encs (xs ++ ys) ++ (Builtin.zeroCells z.cells r).toList)) T (0, 0)), ?_, ?_, .inr (.inr ⟨.cells (List.toArray (encs (xs ++ ys) ++ (Builtin.zeroCells z.cells r).toList)) T (0, 0), rfl, .inr ⟨w.heap.size, xs.length + ys.length + r, (Builtin.zeroCells z.cells r).toList, (0, 0), by simp, rfl, ?_, ?_, Free.zero _⟩⟩)⟩
    · have hb0 : ¬ (i'.bytes = 0) := by omega
      have hbig' : ¬ (281474976710656 < Builtin.nextslicecap (xs.length + ys.length) cap * i'.bytes) := by rw [hbytes]; omega
      simp [Builtin.append_, ht.run, ht2.run, hl.sizeOf, hints, s1.len, hcap, hty, hzero, hb0, hbig', Question.forced, hr, e1, e2, newRow, encs_append]
      congr 2
      apply Array.toList_inj.1
      simp
    · exact ⟨rfl, rfl, rfl, by simp⟩
    · simp
    · simp [zeroCells_len, hzs]

end
end Go.Sl
