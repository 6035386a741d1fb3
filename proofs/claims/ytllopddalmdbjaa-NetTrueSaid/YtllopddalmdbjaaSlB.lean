/-
  The judgments: W on a code, WX on a list of operations (quiet or not), D on an end, Ct: a contract.
-/
import Derived.Test.YtllopddalmdbjaaSlA
namespace Go.Sl
open Go

structure D (g : World) (Q : Exit → Act → World → Prop) (e : Exit) (n : Nat) (L : Fm) (H : HH) : Prop where
  run : ∀ a w, Fr n L a → on g H.flatten w → Q e a w

structure W (g : World) (P : Program) (c : Code) (Q : Exit → Act → World → Prop) (n : Nat) (L : Fm) (H : HH) : Prop where
  run : ∀ a w, Fr n L a → on g H.flatten w → c.wp P Q a w

def wxr (q : Bool) (g : World) (P : Program) (ops : Array Oper) (Q : Exit → Act → World → Prop) (os : List Oper) (H : HH) (a : Act) (w : World) : Prop :=
  match q with
    | false => wpList P ops Q os a w
    | true => wpQuiet P ops (on g H.flatten) (fun a' => ∀ w', on g H.flatten w' → Q .normal a' w') os a

structure WX (q : Bool) (g : World) (P : Program) (ops : Array Oper) (Q : Exit → Act → World → Prop) (n : Nat) (os : List Oper) (L : Fm) (H : HH) : Prop where
  run : ∀ a w, Fr n L a → on g H.flatten w → wxr q g P ops Q os H a w

instance {g : World} {Q : Exit → Act → World → Prop} {e : Exit} {n : Nat} {L : Fm} {H : HH} : CoeFun (D g Q e n L H) fun _ => ∀ a w, Fr n L a → on g H.flatten w → Q e a w := ⟨D.run⟩
instance {g : World} {P : Program} {c : Code} {Q : Exit → Act → World → Prop} {n : Nat} {L : Fm} {H : HH} : CoeFun (W g P c Q n L H) fun _ => ∀ a w, Fr n L a → on g H.flatten w → c.wp P Q a w := ⟨W.run⟩
instance {q : Bool} {g : World} {P : Program} {ops : Array Oper} {Q : Exit → Act → World → Prop} {n : Nat} {os : List Oper} {L : Fm} {H : HH} : CoeFun (WX q g P ops Q n os L H) fun _ => ∀ a w, Fr n L a → on g H.flatten w → wxr q g P ops Q os H a w := ⟨WX.run⟩

/-- A contract: with the heaplets 'pre' (and any others, which stay as they are) the call returns some v, and leaves heaplets of which 'post' holds. -/
structure Ct (P : Program) (f : FuncId) (args : List Value) (pre : HH) (post : Value → HH → Prop) : Prop where
  calls : ∀ (g : World) (R : Hp) (w : World), on g (pre ++ [R]).flatten w → Calls P f args.toArray w (fun e w' => ∃ v H', e = .returned v ∧ post v H' ∧ on g (H' ++ [R]).flatten w')

def cpost (g : World) (post : Value → HH → Prop) (R : Hp) : Ending → World → Prop := fun e w' => ∃ v H', e = .returned v ∧ post v H' ∧ on g (H' ++ [R]).flatten w'

/-- The function has a body that the model runs. -/
class Enters (P : Program) (f : FuncId) : Prop where
  e : ∃ fn, P.funcs[f]? = some fn ∧ (fn.name == "runtime.NumGoroutine") = false ∧ fn.body.isNone = false

def argsFm : Nat → List Value → Fm
  | _, [] => []
  | k, v :: r => (k, v) :: argsFm (k + 1) r

theorem lk_argsFm : ∀ (vs : List Value) (k i : Nat) (v : Value), lk (argsFm k vs) i = some v → k ≤ i ∧ vs[i - k]? = some v
  | [], _, _, _, h => by cases h
  | u :: r, k, i, v, h => by
    simp only [argsFm, lk] at h
    split at h
    · rename_i hb
      have hi := Nat.eq_of_beq_eq_true hb
      subst hi
      cases h
      simp
    · have h2 := lk_argsFm r (k + 1) i v h
      obtain ⟨h3, h4⟩ := h2
      refine ⟨by omega, ?_⟩
      rw [show i - k = (i - (k + 1)) + 1 by omega, List.getElem?_cons_succ]
      exact h4

section
variable {g : World} {P : Program} {ops : Array Oper} {Q : Exit → Act → World → Prop} {n : Nat} {os rest : List Oper} {L L' : Fm} {H H' : HH} {q : Bool}

theorem Ct.mk' {f : FuncId} {args : List Value} {pre : HH} {post : Value → HH → Prop} {fn : Func} {c : Code} (hf : P.funcs[f]? = some fn) (hb : fn.body = some c) (hn : fn.ntmps = n) (ha : Nat.ble args.length n = true)
    (h : ∀ (g : World) (R : Hp), W g P c (bodyPost P fn (cpost g post R)) n (argsFm 0 args) (pre ++ [R])) : Ct P f args pre post := by
  have ha := Nat.le_of_ble_eq_true ha
  refine ⟨fun g R w hw => calls_of_wp hf hb (h g R _ w ⟨rfl, ?_, ?_⟩ hw)⟩
  · simp; omega
  · intro i v e
    obtain ⟨_, h2⟩ := lk_argsFm _ _ _ _ e
    have hi : i < args.length := by
      have := (List.getElem?_eq_some_iff.1 h2).1; omega
    simp only [Nat.sub_zero] at h2
    rw [Array.getElem?_append_left (by simpa using hi)]
    simpa using h2

theorem Ct.mono {f : FuncId} {args : List Value} {pre : HH} {post post' : Value → HH → Prop} (h : Ct P f args pre post) (k : ∀ v H', post v H' → post' v H') : Ct P f args pre post' :=
  ⟨fun g R w hw => (h.calls g R w hw).mono fun _ _ ⟨v, H', e, p, o⟩ => ⟨v, H', e, k v H' p, o⟩⟩

theorem Ct.perm {f : FuncId} {args : List Value} {pre pre' : HH} {post : Value → HH → Prop} (p : pre.flatten.Perm pre'.flatten) (h : Ct P f args pre post) : Ct P f args pre' post :=
  ⟨fun g R w hw => h.calls g R w (hw.perm (by simpa using (List.Perm.append_right R p.symm)))⟩

-- weakening
theorem W.sub {c : Code} (f : Fsub L L') (s : Hsub H H') (h : W g P c Q n L' H') : W g P c Q n L H := .mk fun a w ha hw => h a w (ha.sub f) (s.on hw)
theorem D.sub {e : Exit} (f : Fsub L L') (s : Hsub H H') (h : D g Q e n L' H') : D g Q e n L H := .mk fun a w ha hw => h a w (ha.sub f) (s.on hw)
theorem WX.sub (f : Fsub L L') (s : Hsub H H') (h : WX false g P ops Q n os L' H') : WX false g P ops Q n os L H := .mk fun a w ha hw => h a w (ha.sub f) (s.on hw)
theorem W.perm {c : Code} (s : H.flatten.Perm H'.flatten) (h : W g P c Q n L H') : W g P c Q n L H := .mk fun a w ha hw => h a w ha (hw.perm s)
theorem WX.perm (s : H.flatten.Perm H'.flatten) (h : WX false g P ops Q n os L H') : WX false g P ops Q n os L H := .mk fun a w ha hw => h a w ha (hw.perm s)
theorem D.perm {e : Exit} (s : H.flatten.Perm H'.flatten) (h : D g Q e n L H') : D g Q e n L H := .mk fun a w ha hw => h a w ha (hw.perm s)
theorem W.flat {c : Code} (s : H.flatten = H'.flatten) (h : W g P c Q n L H') : W g P c Q n L H := .mk fun a w ha hw => h a w ha (s ▸ hw)
theorem WX.flat (s : H.flatten = H'.flatten) (h : WX q g P ops Q n os L H') : WX q g P ops Q n os L H := by
  refine .mk fun a w ha hw => ?_
  have := h a w ha (s ▸ hw)
  unfold wxr at this ⊢
  rw [← s] at this
  exact this
theorem D.flat {e : Exit} (s : H.flatten = H'.flatten) (h : D g Q e n L H') : D g Q e n L H := .mk fun a w ha hw => h a w ha (s ▸ hw)
/-- Only these slots are kept. -/
theorem W.keep {c : Code} (f : Fsub L L') (h : W g P c Q n L' H) : W g P c Q n L H := .mk fun a w ha hw => h a w (ha.sub f) hw
theorem D.keep {e : Exit} (f : Fsub L L') (h : D g Q e n L' H) : D g Q e n L H := .mk fun a w ha hw => h a w (ha.sub f) hw

theorem D.as {e : Exit} (t : Nat) (v : Value) {u : Value} (ht : lk L t = some u) (eq : u = v) (h : D g Q e n ((t, v) :: L) H) : D g Q e n L H := D.keep (Fsub.cons (eq ▸ ht) (Fsub.refl L)) h
theorem W.as {c : Code} (t : Nat) (v : Value) {u : Value} (ht : lk L t = some u) (eq : u = v) (h : W g P c Q n ((t, v) :: L) H) : W g P c Q n L H := W.keep (Fsub.cons (eq ▸ ht) (Fsub.refl L)) h

-- codes
theorem W.skip (h : D g Q .normal n L H) : W g P .skip Q n L H := .mk fun a w ha hw => wp_skip (h a w ha hw)
theorem W.exit {id : Nat} (h : D g Q (.exit id) n L H) : W g P (.exit id) Q n L H := .mk fun a w ha hw => wp_exit (h a w ha hw)
theorem W.ret (h : D g Q .ret n L H) : W g P .ret Q n L H := .mk fun a w ha hw => wp_ret (h a w ha hw)
theorem W.seq {x y : Code} (h : W g P x (Exit.then (y.wp P Q) Q) n L H) : W g P (.seq x y) Q n L H := .mk fun a w ha hw => wp_seq (h a w ha hw)
theorem W.block {id : Nat} {c : Code} (h : W g P c (Exit.inBlock id Q) n L H) : W g P (.block id c) Q n L H := .mk fun a w ha hw => wp_block (h a w ha hw)
theorem W.region {id : Nat} {l : List Oper} (h : WX false g P l.toArray Q n l L H) : W g P (.region id l.toArray false) Q n L H := .mk fun a w ha hw => wp_region_lit (h a w ha hw)
theorem W.quiet {id : Nat} {l : List Oper} (hm : P.follows .mixedOrders = true) (hB : Region.lexB .any l.toArray = true) (h : WX true g P l.toArray Q n l L H) :
    W g P (.region id l.toArray true) Q n L H := .mk fun a w ha hw =>
  wp_region_quiet (C := on g H.flatten) hm hB (hw.heap rfl ⟨rfl, rfl, rfl, Nat.le_refl _⟩) (by simpa [wxr] using h a w ha hw)
theorem W.condT {c : Operand} {x y : Code} (hc : ev L c = some (.bool true)) (h : W g P x Q n L H) : W g P (.cond c x y) Q n L H := .mk fun a w ha hw => wp_cond_true (ha.ev hc) (h a w ha hw)
theorem W.condF {c : Operand} {x y : Code} (hc : ev L c = some (.bool false)) (h : W g P y Q n L H) : W g P (.cond c x y) Q n L H := .mk fun a w ha hw => wp_cond_false (ha.ev hc) (h a w ha hw)
theorem W.cond {c : Operand} {x y : Code} {t : Bool} (hc : ev L c = some (.bool t)) (ht : t = true → W g P x Q n L H) (hf : t = false → W g P y Q n L H) : W g P (.cond c x y) Q n L H := by
  cases t
  · exact W.condF hc (hf rfl)
  · exact W.condT hc (ht rfl)
theorem W.condD {c : Operand} {x y : Code} {p : Prop} [Decidable p] (hc : ev L c = some (.bool (decide p))) (ht : p → W g P x Q n L H) (hf : ¬ p → W g P y Q n L H) : W g P (.cond c x y) Q n L H :=
  W.cond hc (fun h => ht (of_decide_eq_true h)) (fun h => hf (of_decide_eq_false h))

theorem W.condP {c : Operand} {x y : Code} {p : Prop} [Decidable p] (hc : ev L c = some (.bool (decide p))) (hp : p) (h : W g P x Q n L H) : W g P (.cond c x y) Q n L H := W.condD hc (fun _ => h) (fun k => absurd hp k)
theorem W.condN {c : Operand} {x y : Code} {p : Prop} [Decidable p] (hc : ev L c = some (.bool (decide p))) (hp : ¬ p) (h : W g P y Q n L H) : W g P (.cond c x y) Q n L H := W.condD hc (fun k => absurd k hp) (fun _ => h)

-- ends
theorem D.seq {y : Code} (h : W g P y Q n L H) : D g (Exit.then (y.wp P Q) Q) .normal n L H := .mk fun a w ha hw => h a w ha hw
theorem D.seqX {y : Code} {id : Nat} (h : D g Q (.exit id) n L H) : D g (Exit.then (y.wp P Q) Q) (.exit id) n L H := .mk fun a w ha hw => h a w ha hw
theorem D.seqR {y : Code} (h : D g Q .ret n L H) : D g (Exit.then (y.wp P Q) Q) .ret n L H := .mk fun a w ha hw => h a w ha hw
theorem D.blk {id : Nat} (h : D g Q .normal n L H) : D g (Exit.inBlock id Q) .normal n L H := .mk fun a w ha hw => h a w ha hw
theorem D.blkR {id : Nat} (h : D g Q .ret n L H) : D g (Exit.inBlock id Q) .ret n L H := .mk fun a w ha hw => h a w ha hw
theorem D.blkX {id : Nat} (h : D g Q .normal n L H) : D g (Exit.inBlock id Q) (.exit id) n L H := .mk fun a w ha hw => by
  show (if id = id then _ else _); rw [if_pos rfl]; exact h a w ha hw
theorem D.blkY {id id' : Nat} (ne : Nat.beq id' id = false) (h : D g Q (.exit id') n L H) : D g (Exit.inBlock id Q) (.exit id') n L H := .mk fun a w ha hw => by
  show (if id' = id then _ else _); rw [if_neg (Nat.ne_of_beq_eq_false ne)]; exact h a w ha hw

-- loops
theorem least {S : Nat → Prop} : ∀ (m : Nat), S m → ∃ k, S k ∧ ∀ j, S j → k ≤ j := by
  intro m
  induction m using Nat.strongRecOn with
  | _ m ih =>
    intro h
    by_cases h2 : ∃ j, S j ∧ j < m
    · obtain ⟨j, hj, hlt⟩ := h2
      exact ih j hlt hj
    · exact ⟨m, h, fun j hj => Nat.le_of_not_lt fun hlt => h2 ⟨j, hj, hlt⟩⟩

/-- The loop's invariant is a family of frames and heaplets, indexed by x with p x. -/
def Round {α : Type} (g : World) (p : α → Prop) (L : α → Fm) (H : α → HH) (μ : α → Nat) (n : Nat) (m : Nat) : Act → World → Prop :=
  fun a w => ∃ y, p y ∧ μ y < m ∧ Fr n (L y) a ∧ on g (H y).flatten w
theorem W.loop {α : Type} {c : Code} (p : α → Prop) (Li : α → Fm) (Hi : α → HH) (μ : α → Nat) (x : α) (hp : p x) (f : Fsub L (Li x)) (s : Hsub H (Hi x))
    (r : ∀ x, p x → W g P c (Exit.then (Round g p Li Hi μ n (μ x)) Q) n (Li x) (Hi x)) : W g P (.loop c) Q n L H := by
  refine .mk fun a w ha hw => ?_
  let I : Act → World → Prop := fun a w => ∃ y, p y ∧ Fr n (Li y) a ∧ on g (Hi y).flatten w
  have hI : I a w := ⟨x, hp, ha.sub f, s.on hw⟩
  let S : Act → World → Nat → Prop := fun a w m => ∃ y, (p y ∧ Fr n (Li y) a ∧ on g (Hi y).flatten w) ∧ μ y = m
  have hS : ∀ a w, I a w → ∃ k, S a w k ∧ ∀ j, S a w j → k ≤ j := fun a w ⟨y, h⟩ => least (μ y) ⟨y, h, rfl⟩
  classical
  let M : Act → World → Nat := fun a w => if h : I a w then Classical.choose (hS a w h) else 0
  refine wp_loop I M hI fun a w hI => ?_
  have hM : M a w = Classical.choose (hS a w hI) := dif_pos hI
  obtain ⟨⟨x, hc, hx⟩, _⟩ := Classical.choose_spec (hS a w hI)
  refine wp_mono (r x hc.1 a w hc.2.1 hc.2.2) fun e a' w' hq => ?_
  cases e <;> first | exact hq | skip
  obtain ⟨y, hy, hlt, hf, ho⟩ := hq
  have hI' : I a' w' := ⟨y, hy, hf, ho⟩
  refine ⟨hI', ?_⟩
  have hM' : M a' w' = Classical.choose (hS a' w' hI') := dif_pos hI'
  have h2 := (Classical.choose_spec (hS a' w' hI')).2 (μ y) ⟨y, ⟨hy, hf, ho⟩, rfl⟩
  omega

theorem D.round {α : Type} {p : α → Prop} {Li : α → Fm} {Hi : α → HH} {μ : α → Nat} {m : Nat} (y : α) (hp : p y) (hm : μ y < m) (f : Fsub L (Li y)) (s : Hsub H (Hi y)) :
    D g (Exit.then (Round g p Li Hi μ n m) Q) .normal n L H := .mk fun _ _ ha hw => ⟨y, hp, hm, ha.sub f, s.on hw⟩
theorem D.roundX {N : Act → World → Prop} {id : Nat} (h : D g Q (.exit id) n L H) : D g (Exit.then N Q) (.exit id) n L H := .mk fun a w ha hw => h a w ha hw
theorem D.roundR {N : Act → World → Prop} (h : D g Q .ret n L H) : D g (Exit.then N Q) .ret n L H := .mk fun a w ha hw => h a w ha hw
end
end Go.Sl
