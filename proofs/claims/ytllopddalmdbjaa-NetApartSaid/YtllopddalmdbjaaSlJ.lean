/-
  Contracts packed; several results; slices turned stringish; sums, products and bits of bytes.
-/
import Derived.Test.YtllopddalmdbjaaSlI
import Derived.Laws.BitsAllLaws
set_option linter.unusedVariables false
set_option linter.unusedSimpArgs false
namespace Go.Sl
open Go

section
variable {g : World} {P : Program} {ops : Array Oper} {Q : Exit → Act → World → Prop} {n : Nat} {rest : List Oper} {L : Fm} {H : HH} {q : Bool}
variable {d : Nat} {ty : TypeId} {pos : String} {af : Array Edge} {v v2 : Value}

theorem whole {cs : List Value} {m : Nat} (h : cs.length = m) : (cs.drop 0).take m = cs := by subst h; simp
theorem WX.nilH {os : List Oper} (h : WX q g P ops Q n os L ([] :: H)) : WX q g P ops Q n os L H := WX.flat (H' := [] :: H) rfl h
/-- A contract over the same memory, cut otherwise. -/
theorem Ct.pack {f : FuncId} {args : List Value} {pre pre' : HH} {post post' : Value → HH → Prop} (h : Ct P f args pre post) (e : pre'.flatten = pre.flatten) (k : ∀ v H', post v H' → ∃ H'', H''.flatten = H'.flatten ∧ post' v H'') : Ct P f args pre' post' :=
  ⟨fun g R w hw => (h.calls g R w (by simpa [e] using hw)).mono fun _ _ ⟨v, H', he, p, o⟩ => by
    obtain ⟨H'', e2, p2⟩ := k v H' p
    exact ⟨v, H'', he, p2, by simpa [e2] using o⟩⟩

/-- The same, with something let go. -/
theorem Ct.packP {f : FuncId} {args : List Value} {pre pre' : HH} {post post' : Value → HH → Prop} (h : Ct P f args pre post) (e : pre'.flatten = pre.flatten) (k : ∀ v H', post v H' → ∃ H'' X, (H''.flatten ++ X).Perm H'.flatten ∧ post' v H'') : Ct P f args pre' post' :=
  ⟨fun g R w hw => (h.calls g R w (by simpa [e] using hw)).mono fun en w' ⟨v, H', he, p, o⟩ => by
    obtain ⟨H'', X, e2, p2⟩ := k v H' p
    refine ⟨v, H'', he, p2, ?_⟩
    have o1 : on g (H'.flatten ++ R) w' := by simpa using o
    have o2 : on g (H''.flatten ++ X ++ R) w' := o1.perm (e2.symm.append_right R)
    have o3 : on g (H''.flatten ++ R ++ X) w' := o2.perm (by
      rw [List.append_assoc, List.append_assoc]
      exact List.Perm.append_left _ List.perm_append_comm)
    simpa using o3.left⟩
theorem Ct.frame {f : FuncId} {args : List Value} {pre F : HH} {post post' : Value → HH → Prop} (h : Ct P f args pre post) (k : ∀ v H', post v H' → post' v (H' ++ F)) : Ct P f args (pre ++ F) post' :=
  ⟨fun g R w hw => (h.calls g (F.flatten ++ R) w (by simpa using hw)).mono fun _ _ ⟨v, H', he, p, o⟩ => ⟨v, H' ++ F, he, k v H' p, by simpa using o⟩⟩
theorem Ct.ext {f : FuncId} {args : List Value} {x r : Hp} {u : Value} (h : Ct P f args [x] (fun v H' => v = u ∧ H' = [x])) : Ct P f args [x ++ r] (fun v H' => v = u ∧ H' = [x ++ r]) :=
  (Ct.frame (F := [r]) (post' := fun v H' => v = u ∧ H' = [x, r]) h (fun v H' p => ⟨p.1, by rw [p.2]; rfl⟩)).pack (by simp) (fun v H' p => ⟨[x ++ r], by rw [p.2]; simp, p.1, rfl⟩)
theorem Ct.extW {f : FuncId} {args : List Value} {x y r : Hp} {u : Value} {Q : Hp → Prop} (h : Ct P f args [x] (fun v H' => v = u ∧ H' = [y])) (k : Q (y ++ r)) : Ct P f args [x ++ r] (fun v H' => ∃ h', v = u ∧ H' = [h'] ∧ Q h') :=
  (Ct.frame (F := [r]) (post' := fun v H' => v = u ∧ H' = [y, r]) h (fun v H' p => ⟨p.1, by rw [p.2]; rfl⟩)).pack (by simp) (fun v H' p => ⟨[y ++ r], by rw [p.2]; simp, _, p.1, rfl, k⟩)
theorem IsSl.sh {α : Type} [Enc α] {T : Nat} {xs : List α} {v : Value} {h : Hp} (hs : IsSl T xs v h) : ∃ p n c, v = .slice p n c := let ⟨p, c, e⟩ := hs.len; ⟨p, _, c, e⟩
theorem IsSl.congr {α : Type} [Enc α] {T : Nat} {xs ys : List α} {v : Value} {h : Hp} (hs : IsSl T xs v h) (e1 : encs xs = encs ys) (e2 : xs.length = ys.length) : IsSl T ys v h := by
  rcases hs with ⟨rfl, rfl, rfl⟩ | ⟨b, cap, sp, fr, rfl, rfl, h1, h2, h3⟩
  · exact .inl ⟨rfl, List.length_eq_zero_iff.1 e2.symm, rfl⟩
  · exact .inr ⟨b, cap, sp, fr, by rw [e2], by rw [e1], by rw [← e2]; exact h1, by rw [← e2]; exact h2, h3⟩

-- results
/-- What stands in the result places. -/
inductive Res (P : Program) (L : Fm) (H : HH) : List ResultVar → List Value → Prop
  | nil : Res P L H [] []
  | tmp {t : Nat} {v : Value} {rs : List ResultVar} {vs : List Value} (h : lk L t = some v) (r : Res P L H rs vs) : Res P L H (.tmp t :: rs) (v :: vs)
  | cellA {c b T T' m : Nat} {fr : Nat × Nat} {us : List Value} {K : Obj → HH} {rs : List ResultVar} {vs : List Value} (hl : lk L c = some (.pointer (some ⟨b, 0, none⟩))) [ht : TL P T m true] [hf : Foc b (.cells (List.toArray us) T' fr) H K]
      (hm : us.length = m) (r : Res P L H rs vs) : Res P L H (.cell c T :: rs) (.agg us.toArray :: vs)
  | cell1 {c b T T' : Nat} {fr : Nat × Nat} {u : Value} {K : Obj → HH} {rs : List ResultVar} {vs : List Value} (hl : lk L c = some (.pointer (some ⟨b, 0, none⟩))) [ht : TL P T 1 false] [hf : Foc b (.cells (List.toArray [u]) T' fr) H K]
      (r : Res P L H rs vs) : Res P L H (.cell c T :: rs) (u :: vs)
def resOf (tmps : Array Value) : ResultVar → Sem Value
  | .tmp t => pure (tmps.getD t undef)
  | .cell a t => do loadVar t (← asAddr (tmps.getD a undef))
theorem Res.run {rs : List ResultVar} {vs : List Value} {a : Act} {w : World} (h : Res P L H rs vs) (ha : Fr n L a) (hw : on g H.flatten w) : (rs.mapM (resOf a.tmps)).run P w = .ok vs w := by
  induction h with
  | nil => simp
  | tmp h r ih =>
    rename_i t v rs vs
    have hc : (resOf a.tmps (.tmp t)).run P w = .ok v w := by simp only [resOf, Sem.run_pure, ha.getD h]
    simp only [List.mapM_cons, Sem.run_bind, Sem.run_pure, Result.andThen_ok, ih, hc]
  | cellA hl hm r ih =>
    rename_i c b T T' m fr us K rs vs ht hf
    have h1 : (loadVar T ⟨b, 0, none⟩).run P w = .ok (.agg us.toArray) w := by
      subst hm
      have := run_loadCells_list (P := P) w ⟨b, 0, none⟩ us (fun j v e => by rw [add_none]; rw [Nat.zero_add, cell_bk (hf.heap hw)]; exact e)
      simp [loadVar, ht.isAgg, ht.sizeOf, this]
    have hc : (resOf a.tmps (.cell c T)).run P w = .ok (.agg us.toArray) w := by simp only [resOf, ha.getD hl, asAddr, Sem.run_bind, Sem.run_pure, Result.andThen_ok, h1]
    simp only [List.mapM_cons, Sem.run_bind, Sem.run_pure, Result.andThen_ok, ih, hc]
  | cell1 hl r ih =>
    rename_i c b T T' fr u K rs vs ht hf
    have h1 : (loadVar T ⟨b, 0, none⟩).run P w = .ok u w := by
      have : w.cell? ⟨b, 0, none⟩ = some u := by rw [cell_bk (hf.heap hw)]; rfl
      simp [loadVar, ht.isAgg, this]
    have hc : (resOf a.tmps (.cell c T)).run P w = .ok u w := by simp only [resOf, ha.getD hl, asAddr, Sem.run_bind, Sem.run_pure, Result.andThen_ok, h1]
    simp only [List.mapM_cons, Sem.run_bind, Sem.run_pure, Result.andThen_ok, ih, hc]
theorem Res.results {fn : Func} {rs : List ResultVar} {vs : List Value} {a : Act} {w : World} (hr : fn.results = rs.toArray) (h : Res P L H rs vs) (ha : Fr n L a) (hw : on g H.flatten w) :
    (Go.results fn a.tmps).run P w = .ok (if h : vs.toArray.size = 1 then vs.toArray[0] else .tuple vs.toArray) w := by
  have := h.run ha hw
  have e : (rs.toArray.mapM (resOf a.tmps)).run P w = .ok vs.toArray w := by
    rw [List.mapM_toArray]
    simp [this]
  unfold Go.results
  rw [hr]
  show ((do let vs ← rs.toArray.mapM (resOf a.tmps); pure (if h : vs.size = 1 then vs[0] else .tuple vs)) : Sem Value).run P w = _
  rw [Sem.run_bind, e]
  simp
theorem D.finR {fn : Func} {post : Value → HH → Prop} {R : Hp} {rs : List ResultVar} {vs : List Value} (H' r : HH) (hr : fn.results = rs.toArray) (h : Res P L H rs vs) (h1 : Nat.beq vs.length 1 = false) (hp : post (.tuple vs.toArray) H') [k : Picks (H' ++ [R]) H r] :
    D g (bodyPost P fn (cpost g post R)) .ret n L H :=
  .mk fun a w ha hw => ⟨ha.defers, .tuple vs.toArray, by
    rw [Res.results hr h ha hw, dif_neg]
    simpa using Nat.ne_of_beq_eq_false h1, ⟨_, H', rfl, hp, (Hsub.of_picks k).on hw⟩⟩
/-- One result, out of a cell. -/
theorem D.finR1 {fn : Func} {post : Value → HH → Prop} {R : Hp} {rs : List ResultVar} {v : Value} (H' r : HH) (hr : fn.results = rs.toArray) (h : Res P L H rs [v]) (hp : post v H') [k : Picks (H' ++ [R]) H r] :
    D g (bodyPost P fn (cpost g post R)) .ret n L H :=
  .mk fun a w ha hw => ⟨ha.defers, v, by
    rw [Res.results hr h ha hw]; rfl, ⟨_, H', rfl, hp, (Hsub.of_picks k).on hw⟩⟩

-- []byte("..") of a constant: a mark behind the block
theorem WX.convSl {T : Nat} {xs : List UInt8} {h : Hp} {K : Hp → HH} {x : Operand} {t : Nat} (hx : ev L x = some v) (hs : IsSl T xs v h) (hne : 0 < xs.length) [hw : Swp h H K] [h1 : TU P t (.slice T)] [h2 : TU P T (.int .u8)] (hd : Nat.blt d n = true)
    (kk : ∀ h', IsSl T xs v h' → WX false g P ops Q n rest ((d, v) :: L) (K h')) : WX false g P ops Q n (⟨some d, .convert t t x, ty, pos, af, none⟩ :: rest) L H := by
  obtain ⟨b, cap, sp, fr, rfl, rfl, g1, g2, g3⟩ := hs.ne hne
  refine WX.eff hd fun a w ha ho => ?_
  have hh := (hw.onx ho).2.2 b _ (List.mem_cons_self)
  have hsz : (encs xs ++ sp).length = cap := by
    rw [List.length_append, encs_len, g2]
    show xs.length * 1 + (cap - xs.length) * 1 = cap
    omega
  have hshape : w.shape? b = some (T, (encs xs ++ sp).length) := by simp [World.shape?, hh]
  obtain ⟨fr', hfr, hF⟩ : ∃ fr', (w.freeze ⟨b, (encs xs ++ sp).length, none⟩ 1).heap[b]? = some (.cells (List.toArray (encs xs ++ sp)) T fr') ∧ Free fr' (cap * 1) := by
    refine ⟨if fr.1 == fr.2 then ((encs xs ++ sp).length, (encs xs ++ sp).length + 1) else (Nat.min fr.1 (encs xs ++ sp).length, Nat.max fr.2 ((encs xs ++ sp).length + 1)), ?_, ?_⟩
    · simp only [World.freeze]
      rw [if_neg (by decide)]
      simp only [Array.getElem?_modify, if_true, hh, Option.map_some]
    · have g3' : fr.1 = fr.2 ∨ cap * 1 ≤ fr.1 := g3
      split
      · right; simp only [hsz]; omega
      · rename_i hne
        have hne' : fr.1 ≠ fr.2 := by simpa using hne
        right
        rcases g3' with g3' | g3'
        · exact absurd g3' hne'
        · simp only [hsz]; exact Nat.le_min.2 ⟨g3', by omega⟩
  have hmod : ∀ k, k ≠ b → (w.freeze ⟨b, (encs xs ++ sp).length, none⟩ 1).heap[k]? = w.heap[k]? := fun k hk => by
    simp only [World.freeze]
    rw [if_neg (by decide)]
    simp only [Array.getElem?_modify]
    rw [if_neg (fun e => hk e.symm)]
  refine ⟨_, w.freeze ⟨b, (encs xs ++ sp).length, none⟩ 1, _, ?_, hw.set (T := T) ho ⟨?_, ?_, ?_, ?_⟩ hfr hmod, kk _ (.inr ⟨b, cap, sp, fr', rfl, rfl, g1, g2, hF⟩)⟩
  · simp [execOp, ha.ev hx, convert, h1.run, h2.run, markStringish, hshape]
  all_goals (simp only [World.freeze]; rw [if_neg (by decide)]; try simp)

theorem WX.neqBB {x y : Operand} {t t' : Nat} {b : Bool} (hx : ev L x = some (.bool b)) (hy : ev L y = some (.bool b)) (hd : Nat.blt d n = true) [ht : TU P t .bool]
    (k : WX q g P ops Q n rest ((d, .bool false) :: L) H) : WX q g P ops Q n (⟨some d, .binOp .neq t x y t', ty, pos, af, none⟩ :: rest) L H :=
  WX.neqB hx hy hd (by simpa using k)
theorem WX.eqlBB {x y : Operand} {t t' : Nat} {b : Bool} (hx : ev L x = some (.bool b)) (hy : ev L y = some (.bool b)) (hd : Nat.blt d n = true) [ht : TU P t .bool]
    (k : WX q g P ops Q n rest ((d, .bool true) :: L) H) : WX q g P ops Q n (⟨some d, .binOp .eql t x y t', ty, pos, af, none⟩ :: rest) L H :=
  WX.eqlB hx hy hd (by simpa using k)

-- bytes
section bytes
variable {x y : Operand} {t t' a b : Nat}
theorem WX.xor8 (hx : ev L x = some (.int .u8 (a : Int))) (hy : ev L y = some (.int .u8 (b : Int))) (ha : a < 256) (hb : b < 256) (hd : Nat.blt d n = true)
    (k : WX q g P ops Q n rest ((d, .int .u8 ((a ^^^ b : Nat) : Int)) :: L) H) : WX q g P ops Q n (⟨some d, .binOp .xor t x y t', ty, pos, af, none⟩ :: rest) L H :=
  WX.val (fun ac hac w _ => run_bin (hac.ev hx) (hac.ev hy) run_eqGuard_int (by
    have := u8_xor_nat a b ha hb
    simp only [binOp, ne_eq, not_true_eq_false, if_false, intBits_xor, this, Sem.run_pure])) hd k
theorem WX.and8 (hx : ev L x = some (.int .u8 (a : Int))) (hy : ev L y = some (.int .u8 (b : Int))) (ha : a < 256) (hb : b < 256) (hd : Nat.blt d n = true)
    (k : WX q g P ops Q n rest ((d, .int .u8 ((a &&& b : Nat) : Int)) :: L) H) : WX q g P ops Q n (⟨some d, .binOp .and t x y t', ty, pos, af, none⟩ :: rest) L H :=
  WX.val (fun ac hac w _ => run_bin (hac.ev hx) (hac.ev hy) run_eqGuard_int (by
    have := u8_and_nat a b ha hb
    simp only [binOp, ne_eq, not_true_eq_false, if_false, intBits_and, this, Sem.run_pure])) hd k
/-- A shift to the right by a count. -/
theorem WX.shrN {kd kd' : IntKind} {m : Nat} (hx : ev L x = some (.int kd (a : Int))) (hy : ev L y = some (.int kd' (m : Int))) (hm : m ≤ kd.bits) (hd : Nat.blt d n = true)
    (k : WX q g P ops Q n rest ((d, .int kd ((a / 2 ^ m : Nat) : Int)) :: L) H) : WX q g P ops Q n (⟨some d, .binOp .shr t x y t', ty, pos, af, none⟩ :: rest) L H :=
  WX.val (fun ac hac w _ => run_bin (hac.ev hx) (hac.ev hy) (by unfold eqGuard; rfl) (by
    have h1 : Min.min ((m : Int).toNat) kd.bits = m := by rw [Int.toNat_natCast]; exact Nat.min_eq_left hm
    have h2 : ((a : Int).fdiv (2 ^ m)) = ((a / 2 ^ m : Nat) : Int) := by
      rw [Int.fdiv_eq_ediv_of_nonneg _ (by exact Int.le_of_lt (Int.pow_pos (by decide)))]
      norm_cast
    simp only [binOp, Op.shift]
    rw [if_neg (by omega), h1, h2]
    rfl)) hd k
end bytes
end
end Go.Sl
