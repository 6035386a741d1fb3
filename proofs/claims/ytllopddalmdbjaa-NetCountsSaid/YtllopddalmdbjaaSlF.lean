/-
  Slices that a call owns: the rules for append, literals, make.
-/
import Derived.Test.YtllopddalmdbjaaSlE
set_option linter.unusedVariables false
set_option linter.unusedSimpArgs false
namespace Go.Sl
open Go
section
variable {α : Type} [E : Enc α] {P : Program} {g : World}
theorem foldl_setAt (off : Nat) : ∀ (vs : List Value) (j : Nat) (cells : Array Value), (vs.zipIdx j).foldl (fun (cs : Array Value) (x : Value × Nat) => cs.setIfInBounds (off + x.2) x.1) cells = (setAt cells.toList (off + j) vs).toArray
  | [], j, cells => by simp [setAt]
  | v :: vs, j, cells => by
    simp only [List.zipIdx_cons, List.foldl_cons]
    rw [foldl_setAt off vs (j + 1)]
    simp [setAt, Nat.add_assoc]

/-- Parts laid one behind the other fill the cells. -/
theorem fill_all (m : Nat) : ∀ (ys : List α) (vs : List Value) (k : Nat) (l r : List Value), m = Enc.sz α → l.length = k * m → r.length = ys.length * m → vs.map (·.cells.toList) = ys.map Enc.enc →
    Instr.fill (fun i => some (i * m, m)) (List.toArray (l ++ r)) ((List.range' k ys.length).zip vs) = some (List.toArray (l ++ encs ys))
  | [], [], k, l, r, _, _, h2, _ => by
    have : r = [] := List.length_eq_zero_iff.1 (by simpa using h2)
    subst this
    simp [Instr.fill, encs]
  | [], _ :: _, _, _, _, _, _, _, h => by simp at h
  | _ :: _, [], _, _, _, _, _, _, h => by simp at h
  | y :: ys, u :: vs, k, l, r, hm, h1, h2, h3 => by
    simp only [List.map_cons, List.cons.injEq] at h3
    simp only [List.length_cons, Nat.succ_mul] at h2
    have hu : u.cells.size = m := by rw [← Array.length_toList, h3.1, Enc.len, hm]
    have hc : ¬ (u.cells.size ≠ m ∨ k * m + u.cells.size > (List.toArray (l ++ r)).size) := by simp; omega
    simp only [List.length_cons, List.range'_succ, List.zip_cons_cons, Instr.fill]
    rw [if_neg (by simpa using hc)]
    have e : u.cells.zipIdx.foldl (fun (cs : Array Value) (x : Value × Nat) => cs.setIfInBounds (k * m + x.2) x.1) (List.toArray (l ++ r)) = List.toArray ((l ++ Enc.enc y) ++ r.drop m) := by
      rw [← Array.foldl_toList, Array.toList_zipIdx, foldl_setAt, h3.1]
      simp only [Nat.add_zero]
      rw [← h1, show l.length = l.length + 0 from rfl, setAt_append_right]
      congr 1
      rw [List.append_assoc]
      congr 1
      have hr : r = r.take m ++ r.drop m := (List.take_append_drop _ _).symm
      conv => lhs; rw [hr]
      rw [setAt_append_left _ _ _ _ (by rw [Enc.len, List.length_take]; omega)]
      congr 1
      have := setAt_all (Enc.enc y) (r.take m) 0 [] rfl (by rw [List.length_take, Enc.len]; omega)
      simpa using this
    rw [e]
    have ih := fill_all m ys vs (k + 1) (l ++ Enc.enc y) (r.drop m) hm (by simp [h1, Enc.len, Nat.succ_mul, hm]) (by simp; omega) h3.2
    rw [ih]
    simp [encs]
end

section
variable {g : World} {P : Program} {ops : Array Oper} {Q : Exit → Act → World → Prop} {n : Nat} {os rest : List Oper} {L L' : Fm} {H H' : HH} {q : Bool}
variable {d : Nat} {op : Op} {ty : TypeId} {pos : String} {af : Array Edge} {v v2 : Value}
variable {α : Type} [E : Enc α] {xs ys : List α} {y : α} {T T2 k : Nat} {h h2 : Hp}

theorem Swp.new {h : Hp} {H : HH} {K : Hp → HH} {w w' : World} {o : Obj} (s : Swp h H K) (ho : on g H.flatten w) (a : Amb w w') (e : w'.heap = w.heap.push o) : on g (K [(w.heap.size, o)]).flatten w' := by
  obtain ⟨l, r, e1, e2⟩ := s.p
  have h1 : on g ((w.heap.size, o) :: H.flatten) (w.alloc o) := ho.alloc o
  have h2 : on g ((w.heap.size, o) :: H.flatten) w' := ⟨ho.1.trans a, h1.2.1, fun b o' hm => by rw [e]; exact h1.2.2 b o' hm⟩
  rw [e1] at h2
  rw [e2]
  have h3 : on g ((w.heap.size, o) :: (l ++ r)) w' := h2.sub (by
    refine List.Sublist.cons_cons _ ?_
    rw [List.append_assoc]
    exact List.Sublist.append (List.Sublist.refl _) (List.sublist_append_right _ _))
  refine h3.perm ?_
  rw [List.append_assoc]
  exact List.perm_middle.symm
theorem Swp.gone {h : Hp} {H : HH} {K : Hp → HH} {w w' : World} (s : Swp h H K) (ho : on g H.flatten w) (a : Amb w w') (e : w'.heap = w.heap) (hh : h = []) : on g (K []).flatten w' := by
  obtain ⟨l, r, e1, e2⟩ := s.p
  subst hh
  rw [e2, ← e1]
  exact ho.heap e a

theorem app_core {x z : Operand} {t t2 m bytes : Nat} {ag : Bool} {zs : List Value} {d2 : TypeDesc} {K : Hp → HH} (hx : ev L x = some v) (hz : ev L z = some v2) (hs : IsSl T xs v h)
    (hsrc : ∀ w, on g H.flatten w → ∀ w' : World, w'.heap = w.heap → Src P (Enc.sz α) v2 ys.length (encs ys) w') [hw : Swp h H K] [ht : TU P t (.slice T)] [ht2 : TU P t2 d2] (hd2 : ∀ k, d2 ≠ .int k)
    [hl : TL P T m ag] [hb : TB P T bytes] [hzz : TZ P T zs] (hm : m = Enc.sz α) (hzl : zs.length = m) (hbp : 0 < bytes) (hbd : (2 * (xs.length + ys.length) + 256) * bytes ≤ 281474976710656) (hd : Nat.blt d n = true)
    (kk : ∀ v' h', IsSl T (xs ++ ys) v' h' → WX false g P ops Q n rest ((d, v') :: L) (K h')) :
    WX false g P ops Q n (⟨some d, .call ⟨.builtin .append, #[x, z], #[t, t2]⟩, ty, pos, af, none⟩ :: rest) L H := by
  refine WX.eff hd fun a w ha ho => ?_
  obtain ⟨v', w', hr, ham, hc⟩ := run_append (ty := ty) (t := t) (t2 := t2) hd2 hm hzl hbp hs (fun b o hm => (hw.onx ho).2.2 b o hm) (hsrc w ho) hbd
  have hrun : (execOp a.eval ⟨some d, .call ⟨.builtin .append, #[x, z], #[t, t2]⟩, ty, pos, af, none⟩).run P w = .ok (.value v') w' :=
    run_bi (args := [x, z]) (vs := [v, v2]) (by simp [ha.ev hx, ha.ev hz]) (by simp [builtin, hr])
  rcases hc with ⟨b, o, o', rfl, h1, h2, h3⟩ | ⟨h1, h2, h3⟩ | ⟨o, h1, h2⟩
  · exact ⟨v', w', _, hrun, hw.set (T := T) ho ham h1 h2, kk _ _ h3⟩
  · exact ⟨v', w', _, hrun, hw.gone ho ham h2 h1, kk _ _ h3⟩
  · exact ⟨v', w', _, hrun, hw.new ho ham h1, kk _ _ h2⟩

theorem WX.app {x z : Operand} {t t2 m bytes : Nat} {ag : Bool} {zs : List Value} {e2 : Nat} {K K2 : Hp → HH} (hx : ev L x = some v) (hz : ev L z = some v2) (hs : IsSl T xs v h) (hs2 : Rs ys v2 h2)
    [hw : Swp h H K] [hw2 : Swp h2 H K2] [ht : TU P t (.slice T)] [ht2 : TU P t2 (.slice e2)]
    [hl : TL P T m ag] [hb : TB P T bytes] [hzz : TZ P T zs] (hm : m = Enc.sz α) (hzl : zs.length = m) (hbp : 0 < bytes) (hbd : (2 * (xs.length + ys.length) + 256) * bytes ≤ 281474976710656) (hd : Nat.blt d n = true)
    (kk : ∀ v' h', IsSl T (xs ++ ys) v' h' → WX false g P ops Q n rest ((d, v') :: L) (K h')) :
    WX false g P ops Q n (⟨some d, .call ⟨.builtin .append, #[x, z], #[t, t2]⟩, ty, pos, af, none⟩ :: rest) L H :=
  app_core hx hz hs (fun w ho w' e => hs2.src (g := w') (by
    have := hw2.onx ho
    exact ⟨Amb.refl w', this.2.1, fun b o hm => by rw [e]; exact this.2.2 b o hm⟩)) (by intro k hk; cases hk) hm hzl hbp hbd hd kk
/-- append(bytes, s...) of a string. -/
theorem WX.appS {x z : Operand} {t t2 bytes : Nat} {ag : Bool} {zs : List Value} {K : Hp → HH} {xs : List UInt8} {s : ByteArray} (hx : ev L x = some v) (hz : ev L z = some (.string s)) (hs : IsSl T xs v h)
    [hw : Swp h H K] [ht : TU P t (.slice T)] [ht2 : TU P t2 .string]
    [hl : TL P T 1 ag] [hb : TB P T bytes] [hzz : TZ P T zs] (hzl : zs.length = 1) (hbp : 0 < bytes) (hbd : (2 * (xs.length + s.data.toList.length) + 256) * bytes ≤ 281474976710656) (hd : Nat.blt d n = true)
    (kk : ∀ v' h', IsSl T (xs ++ s.data.toList) v' h' → WX false g P ops Q n rest ((d, v') :: L) (K h')) :
    WX false g P ops Q n (⟨some d, .call ⟨.builtin .append, #[x, z], #[t, t2]⟩, ty, pos, af, none⟩ :: rest) L H :=
  app_core hx hz hs (fun w ho w' e => strs_src) (by intro k hk; cases hk) rfl hzl hbp hbd hd kk

/-- A slice literal. -/
theorem WX.lit {t m : Nat} {ag : Bool} {zs : List Value} {ys : List α} {vs : List Value} {parts : List (Nat × Operand)} {len : Nat} [ht : TU P t (.slice T)] [hl : TL P T m ag] [hzz : TZ P T zs] (hm : m = Enc.sz α) (hzl : zs.length = m)
    (hx : evs L (parts.map (·.2)) = some vs) (hi : parts.map (·.1) = List.range' 0 ys.length) (hlen : len = ys.length) (hv : vs.map (·.cells.toList) = ys.map Enc.enc) (hb : len * m ≤ 16777216) (hd : Nat.blt d n = true)
    (kk : ∀ v' h', IsSl T ys v' h' → WX false g P ops Q n rest ((d, v') :: L) (h' :: H)) :
    WX false g P ops Q n (⟨some d, .buildSlice t len parts.toArray, ty, pos, af, none⟩ :: rest) L H := by
  subst hlen
  refine WX.eff hd fun a w ha ho => ?_
  obtain ⟨z, h1, h2⟩ := hzz.run (w := w)
  have e := ha.evs hx
  have e2 : parts.map (fun x => (x.1, a.eval x.2)) = (parts.map (·.1)).zip vs := by
    rw [← e, List.map_map, List.zip_map', Function.comp_def]
  have hsz : z.cells.size = m := by rw [h2]; simpa using hzl
  have hf := fill_all m ys vs 0 [] (List.replicate ys.length zs).flatten hm (by simp) (by simp [hzl]) hv
  rw [← hi, ← e2] at hf
  simp only [List.nil_append] at hf
  refine ⟨.slice (some ⟨w.heap.size, 0, none⟩) ys.length ys.length, w.alloc (.cells (List.toArray (encs ys)) T (0, 0)), _, ?_, ?_, kk _ [(w.heap.size, .cells (List.toArray (encs ys)) T (0, 0))] (IsSl.of_block T w.heap.size ys)⟩
  · have hb' : ¬ (16777216 < ys.length * m) := by omega
    by_cases h0 : ys.length * m = 0
    · have hm0 : 0 < m := by rw [hm]; exact Enc.pos
      have hy0 : ys.length = 0 := by
        rcases Nat.mul_eq_zero.1 h0 with h | h
        · exact h
        · omega
      obtain rfl : ys = [] := List.length_eq_zero_iff.1 hy0
      have hp : parts = [] := by
        cases parts with
        | nil => rfl
        | cons _ _ => simp at hi
      subst hp
      simp [execOp, Instr.buildSlice, ht.run, hl.sizeOf, Instr.fill, newRow, encs]
      congr 2
      exact Array.toList_inj.1 (by simp)
    · have h0' : ¬ (ys = [] ∨ m = 0) := by
        rintro (h | h)
        · subst h; simp at h0
        · subst h; simp at h0
      have hr := range_zeros zs m hzl (by rw [hm]; exact Enc.pos) ys.length
      have hr' : (Array.range (ys.length * m)).map (fun i => (zs.toArray)[i % m]!) = List.toArray (List.replicate ys.length zs).flatten := by
        apply Array.toList_inj.1
        simpa using hr
      simp [execOp, Instr.buildSlice, ht.run, hl.sizeOf, hb', h0', h1, h2, hzl, newRow]
      rw [if_neg h0]
      have hr2 : (Array.range (ys.length * m)).map (fun x => zs[x % m]?.getD default) = List.toArray (List.replicate ys.length zs).flatten := by
        rw [← hr']; simp
      rw [hr2, hf]
      simp
  · exact ho.alloc _

theorem WX.make {l c : Operand} {t m bytes : Nat} {ag : Bool} {zs : List Value} {z : α} {kl kc : IntKind} {i j : Nat} [ht : TU P t (.slice T)] [hl : TL P T m ag] [hzz : TZ P T zs] [hb : TB P T bytes] (hm : m = Enc.sz α) (hz : Enc.enc z = zs)
    (hx : ev L l = some (.int kl (i : Int))) (hy : ev L c = some (.int kc (j : Int))) (hij : i ≤ j) (hbd : bytes * j ≤ 140737488355328) (hj : j ≤ 9223372036854775807) (hd : Nat.blt d n = true)
    (kk : ∀ v' h', IsSl T (List.replicate i z) v' h' → WX false g P ops Q n rest ((d, v') :: L) (h' :: H)) :
    WX false g P ops Q n (⟨some d, .makeSlice t l c, ty, pos, af, none⟩ :: rest) L H := by
  refine WX.eff hd fun a w ha ho => ?_
  obtain ⟨z0, h1, h2⟩ := hzz.run (w := w)
  have hzl : zs.length = m := by rw [← hz, Enc.len, hm]
  have hby : ∃ i, P.info? T = some i ∧ i.bytes = bytes := by
    have := hb.s
    cases hi : P.info? T with
    | none => simp [hi] at this
    | some i => exact ⟨i, rfl, by simpa [hi] using this⟩
  obtain ⟨inf, hinf, hbytes⟩ := hby
  have hty : (typeInfo T).run P w = .ok inf w := by simp [typeInfo, hinf]
  have w1 : IntKind.i64.wrap (i : Int) = i := IntWalk.i64_in _ (by omega)
  have w2 : IntKind.i64.wrap (j : Int) = j := IntWalk.i64_in _ (by omega)
  have hr := range_zeros zs m hzl (by rw [hm]; exact Enc.pos) j
  have hr' : (Array.range (j * m)).map (fun i => (zs.toArray)[i % m]!) = List.toArray (List.replicate j zs).flatten := by
    apply Array.toList_inj.1
    simpa using hr
  have hcells : (List.replicate j zs).flatten = encs (List.replicate i z) ++ (List.replicate (j - i) zs).flatten := by
    rw [encs_replicate, hz, ← List.flatten_append, List.replicate_append_replicate]
    congr 2; omega
  refine ⟨.slice (some ⟨w.heap.size, 0, none⟩) i j, w.alloc (.cells (List.toArray (List.replicate j zs).flatten) T (0, 0)), _, ?_, ?_, kk _ [(w.heap.size, .cells (List.toArray (List.replicate j zs).flatten) T (0, 0))] (.inr ⟨w.heap.size, j, (List.replicate (j - i) zs).flatten, (0, 0), by rw [List.length_replicate], by rw [hcells], by rw [List.length_replicate]; exact hij, by rw [List.length_replicate, List.length_flatten, List.map_replicate, List.sum_replicate_nat, hzl, hm], Free.zero _⟩)⟩
  · have t0 : ((bytes * j : Nat) : Int) ≤ ((140737488355328 : Nat) : Int) := Int.ofNat_le.2 hbd
    rw [Int.natCast_mul] at t0
    have t1 : ¬ ((bytes : Int) * (j : Int) > 2 ^ 48) := by
      rw [show ((2 : Int) ^ 48) = 281474976710656 from rfl]; omega
    have t2 : ¬ ((j : Int) < 0) := by omega
    have t3 : ¬ ((i : Int) > (j : Int)) := by omega
    have t4 : ¬ ((i : Int) < 0) := by omega
    have tb : ((decide ((j : Int) < 0) || decide ((inf.bytes : Int) * (j : Int) > 2 ^ 48)) || decide ((i : Int) < 0) || decide ((i : Int) > (j : Int))) = false := by
      rw [hbytes, decide_eq_false t1, decide_eq_false t2, decide_eq_false t3, decide_eq_false t4]; rfl
    have hn : ((j : Int).toNat * m) = j * m := by simp
    have hcells0 : ∀ (zz : Array Value), (j * m = 0 → zz = #[]) → (j * m ≠ 0 → zz = z0.cells) → (Array.range (j * m)).map (fun i => zz[i % zz.size]!) = List.toArray (List.replicate j zs).flatten := by
      intro zz e1 e2
      by_cases h0 : j * m = 0
      · rw [h0]
        apply Array.toList_inj.1
        have hj0 : j = 0 := by
          rcases Nat.mul_eq_zero.1 h0 with h | h
          · exact h
          · have := Enc.pos (α := α); omega
        subst hj0
        simp
      · rw [e2 h0, h2, ← hr']
        simp [hzl]
    simp only [execOp, ha.ev hx, ha.ev hy, Instr.makeSlice, Sem.run_bind, ht.run, Result.andThen_ok, asInt, asIntOf, hty, w1, w2, Sem.run_pure]
    rw [tb]
    simp only [Bool.false_eq_true, if_false, Sem.run_bind, Sem.run_pure, Result.andThen_ok, run_askRoom, hl.sizeOf, hn]
    by_cases h0 : j * m = 0
    · simp only [h0, if_true, Sem.run_pure, Result.andThen_ok, newRow, Sem.run_bind, run_newObj]
      have := hcells0 #[] (fun _ => rfl) (fun h => absurd h0 h)
      rw [h0] at this
      rw [this]
      simp
    · simp only [h0, if_false, Sem.run_bind, h1, Sem.run_pure, Result.andThen_ok, newRow, run_newObj]
      rw [hcells0 z0.cells (fun h => absurd h h0) (fun _ => rfl)]
      simp
  · exact ho.alloc _
end
/- Guards for the scripts: which operation stands next. -/
section
variable {g : World} {P : Program} {ops : Array Oper} {Q : Exit → Act → World → Prop} {n : Nat} {rest : List Oper} {L : Fm} {H : HH} {q : Bool}
variable {d : Nat} {dst : Option Tmp} {op : Op} {ty : TypeId} {pos : String} {af : Array Edge}
theorem I.gd {j : Nat × Bool} (h : WX q g P ops Q n (⟨dst, op, ty, pos, af, some j⟩ :: rest) L H) : WX q g P ops Q n (⟨dst, op, ty, pos, af, some j⟩ :: rest) L H := h
theorem I.cond {c : Operand} {x y : Code} (h : W g P (.cond c x y) Q n L H) : W g P (.cond c x y) Q n L H := h
theorem I.mv {x : Operand} (h : WX q g P ops Q n (⟨some d, .move x, ty, pos, af, none⟩ :: rest) L H) : WX q g P ops Q n (⟨some d, .move x, ty, pos, af, none⟩ :: rest) L H := h
theorem I.as {x : Operand} (h : WX q g P ops Q n (⟨some d, .assign x, ty, pos, af, none⟩ :: rest) L H) : WX q g P ops Q n (⟨some d, .assign x, ty, pos, af, none⟩ :: rest) L H := h
theorem I.pk {x y z : Operand} (h : WX q g P ops Q n (⟨some d, .pick x y z, ty, pos, af, none⟩ :: rest) L H) : WX q g P ops Q n (⟨some d, .pick x y z, ty, pos, af, none⟩ :: rest) L H := h
theorem I.nc {x : Operand} (h : WX q g P ops Q n (⟨some d, .nilCheck x, ty, pos, af, none⟩ :: rest) L H) : WX q g P ops Q n (⟨some d, .nilCheck x, ty, pos, af, none⟩ :: rest) L H := h
theorem I.ncN {x : Operand} (h : WX q g P ops Q n (⟨none, .nilCheck x, ty, pos, af, none⟩ :: rest) L H) : WX q g P ops Q n (⟨none, .nilCheck x, ty, pos, af, none⟩ :: rest) L H := h
theorem I.fa {x : Operand} {t f : Nat} (h : WX q g P ops Q n (⟨some d, .fieldAddr t x f, ty, pos, af, none⟩ :: rest) L H) : WX q g P ops Q n (⟨some d, .fieldAddr t x f, ty, pos, af, none⟩ :: rest) L H := h
theorem I.ld {x : Operand} {t : Nat} (h : WX q g P ops Q n (⟨some d, .load t x, ty, pos, af, none⟩ :: rest) L H) : WX q g P ops Q n (⟨some d, .load t x, ty, pos, af, none⟩ :: rest) L H := h
theorem I.bin {x y : Operand} {t t' : Nat} {bo : BinOp} (h : WX q g P ops Q n (⟨some d, .binOp bo t x y t', ty, pos, af, none⟩ :: rest) L H) : WX q g P ops Q n (⟨some d, .binOp bo t x y t', ty, pos, af, none⟩ :: rest) L H := h
theorem I.un {x : Operand} {t : Nat} {uo : UnOp} (h : WX q g P ops Q n (⟨some d, .unOp uo t x, ty, pos, af, none⟩ :: rest) L H) : WX q g P ops Q n (⟨some d, .unOp uo t x, ty, pos, af, none⟩ :: rest) L H := h
theorem I.bi {b : Builtin} {as : Array Operand} {ts : Array TypeId} (h : WX q g P ops Q n (⟨some d, .call ⟨.builtin b, as, ts⟩, ty, pos, af, none⟩ :: rest) L H) : WX q g P ops Q n (⟨some d, .call ⟨.builtin b, as, ts⟩, ty, pos, af, none⟩ :: rest) L H := h
theorem I.biN {b : Builtin} {as : Array Operand} {ts : Array TypeId} (h : WX q g P ops Q n (⟨none, .call ⟨.builtin b, as, ts⟩, ty, pos, af, none⟩ :: rest) L H) : WX q g P ops Q n (⟨none, .call ⟨.builtin b, as, ts⟩, ty, pos, af, none⟩ :: rest) L H := h
theorem I.ix {x y : Operand} {t : Nat} (h : WX q g P ops Q n (⟨some d, .indexAddr t x y, ty, pos, af, none⟩ :: rest) L H) : WX q g P ops Q n (⟨some d, .indexAddr t x y, ty, pos, af, none⟩ :: rest) L H := h
theorem I.st {x y : Operand} {t : Nat} (h : WX q g P ops Q n (⟨none, .store t x y, ty, pos, af, none⟩ :: rest) L H) : WX q g P ops Q n (⟨none, .store t x y, ty, pos, af, none⟩ :: rest) L H := h
theorem I.bd {t : Nat} {ps : Array (Nat × Operand)} (h : WX q g P ops Q n (⟨some d, .build t ps, ty, pos, af, none⟩ :: rest) L H) : WX q g P ops Q n (⟨some d, .build t ps, ty, pos, af, none⟩ :: rest) L H := h
theorem I.bs {t l : Nat} {ps : Array (Nat × Operand)} (h : WX q g P ops Q n (⟨some d, .buildSlice t l ps, ty, pos, af, none⟩ :: rest) L H) : WX q g P ops Q n (⟨some d, .buildSlice t l ps, ty, pos, af, none⟩ :: rest) L H := h
theorem I.bx {t : Nat} {x : Operand} (h : WX q g P ops Q n (⟨some d, .box t x, ty, pos, af, none⟩ :: rest) L H) : WX q g P ops Q n (⟨some d, .box t x, ty, pos, af, none⟩ :: rest) L H := h
theorem I.al {t : Nat} (h : WX q g P ops Q n (⟨some d, .alloc t, ty, pos, af, none⟩ :: rest) L H) : WX q g P ops Q n (⟨some d, .alloc t, ty, pos, af, none⟩ :: rest) L H := h
theorem I.ex {x : Operand} {i : Nat} (h : WX q g P ops Q n (⟨some d, .extract x i, ty, pos, af, none⟩ :: rest) L H) : WX q g P ops Q n (⟨some d, .extract x i, ty, pos, af, none⟩ :: rest) L H := h
theorem I.cv {x : Operand} {t t' : Nat} (h : WX q g P ops Q n (⟨some d, .convert t t' x, ty, pos, af, none⟩ :: rest) L H) : WX q g P ops Q n (⟨some d, .convert t t' x, ty, pos, af, none⟩ :: rest) L H := h
theorem I.ms {x y : Operand} {t : Nat} (h : WX q g P ops Q n (⟨some d, .makeSlice t x y, ty, pos, af, none⟩ :: rest) L H) : WX q g P ops Q n (⟨some d, .makeSlice t x y, ty, pos, af, none⟩ :: rest) L H := h
theorem I.sl {x : Operand} {t : Nat} {lo hi mx : Option Operand} (h : WX q g P ops Q n (⟨some d, .slice t x lo hi mx, ty, pos, af, none⟩ :: rest) L H) : WX q g P ops Q n (⟨some d, .slice t x lo hi mx, ty, pos, af, none⟩ :: rest) L H := h
theorem I.fd {x : Operand} {t f : Nat} (h : WX q g P ops Q n (⟨some d, .field t x f, ty, pos, af, none⟩ :: rest) L H) : WX q g P ops Q n (⟨some d, .field t x f, ty, pos, af, none⟩ :: rest) L H := h
theorem I.ixv {x y : Operand} {t : Nat} (h : WX q g P ops Q n (⟨some d, .index t x y, ty, pos, af, none⟩ :: rest) L H) : WX q g P ops Q n (⟨some d, .index t x y, ty, pos, af, none⟩ :: rest) L H := h
theorem I.cl {f : FuncId} {as : Array Operand} {ts : Array TypeId} (h : WX q g P ops Q n (⟨some d, .call ⟨.value (.func f), as, ts⟩, ty, pos, af, none⟩ :: rest) L H) : WX q g P ops Q n (⟨some d, .call ⟨.value (.func f), as, ts⟩, ty, pos, af, none⟩ :: rest) L H := h
theorem I.clN {f : FuncId} {as : Array Operand} {ts : Array TypeId} (h : WX q g P ops Q n (⟨none, .call ⟨.value (.func f), as, ts⟩, ty, pos, af, none⟩ :: rest) L H) : WX q g P ops Q n (⟨none, .call ⟨.value (.func f), as, ts⟩, ty, pos, af, none⟩ :: rest) L H := h
end
end Go.Sl
