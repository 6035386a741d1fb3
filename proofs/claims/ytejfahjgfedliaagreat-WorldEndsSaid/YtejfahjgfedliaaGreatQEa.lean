/-
  Texts of one road, one behind the other.
-/
import Derived.WalkKit
import Derived.Deep.Quiet
import Derived.StillTail
import Derived.KernelRfl
import Derived.ChangeKeysEq
import Derived.Test.YtejfahjgfedliaaGreatChecked
import Derived.Laws.IdiomStrings
import Derived.Laws.BitsAllLaws
set_option linter.unusedVariables false
set_option linter.unusedSimpArgs false
namespace Go.Sl
open Go List
abbrev Hp := List (Nat × Obj)
abbrev HH := List Hp
abbrev Fm := List (Nat × Value)
structure Amb (g w : World) : Prop where
 os : w.os = g.os
 tape : w.tape = g.tape
 output : w.output = g.output
 size : g.heap.size ≤ w.heap.size
theorem Amb.refl (g : World) : Amb g g := ⟨rfl, rfl, rfl, Nat.le_refl _⟩
theorem Amb.trans {a b c : World} (h : Amb a b) (k : Amb b c) : Amb a c :=
 ⟨k.os.trans h.os, k.tape.trans h.tape, k.output.trans h.output, Nat.le_trans h.size k.size⟩
def on (g : World) (h : Hp) (w : World) : Prop :=
 Amb g w ∧ (h.map Prod.fst).Nodup ∧ ∀ b o, (b, o) ∈ h → w.heap[b]? = some o
section
variable {g : World} {h h' r : Hp} {w w' : World} {b : Nat} {o o' : Obj}
theorem on.perm (p : h.Perm h') (H : on g h w) : on g h' w :=
 ⟨H.1, (p.map Prod.fst).nodup_iff.1 H.2.1, fun b o hm => H.2.2 b o (p.mem_iff.2 hm)⟩
theorem on.sub (s : h'.Sublist h) (H : on g h w) : on g h' w :=
 ⟨H.1, H.2.1.sublist (s.map Prod.fst), fun b o hm => H.2.2 b o (s.subset hm)⟩
theorem on.left (H : on g (h ++ r) w) : on g h w := H.sub (sublist_append_left _ _)
theorem on.right (H : on g (h ++ r) w) : on g r w := H.sub (sublist_append_right _ _)
theorem on.lt (H : on g h w) (m : (b, o) ∈ h) : b < w.heap.size := by
 have := H.2.2 b o m
 exact (Array.getElem?_eq_some_iff.1 this).1
theorem on.heap (H : on g h w) (e : w'.heap = w.heap) (a : Amb w w') : on g h w' :=
 ⟨H.1.trans a, H.2.1, fun b o m => by rw [e]; exact H.2.2 b o m⟩
theorem on.alloc (H : on g h w) (o : Obj) : on g ((w.heap.size, o) :: h) (w.alloc o) := by
 refine ⟨⟨H.1.os, H.1.tape, H.1.output, ?_⟩, ?_, ?_⟩
 ·have := H.1.size; simp only [World.size_alloc]; omega
 ·simp only [map_cons, nodup_cons]
  refine ⟨fun hm => ?_, H.2.1⟩
  obtain ⟨⟨b, o'⟩, hx, hb⟩ := mem_map.1 hm
  have hlt := H.lt hx
  simp only at hb
  omega
 ·intro b o' hm
  show (w.heap.push o)[b]? = some o'
  rcases mem_cons.1 hm with h1 | h1
  ·cases h1; simp
  ·have := H.lt h1
   rw [Array.getElem?_push, if_neg (by omega)]
   exact H.2.2 b o' h1
theorem on.set {l : Hp} (H : on g (l ++ (b, o) :: r) w) (a : Amb w w') (e : w'.heap[b]? = some o') (k : ∀ k, k ≠ b → w'.heap[k]? = w.heap[k]?) :
  on g (l ++ (b, o') :: r) w' := by
 have hn := H.2.1
 refine ⟨H.1.trans a, by simpa using hn, fun b' o'' hm => ?_⟩
 simp only [map_append, map_cons] at hn
 rw [nodup_append] at hn
 obtain ⟨_, hn2, hn3⟩ := hn
 rw [nodup_cons] at hn2
 rcases mem_append.1 hm with h1 | h1
 ·have hne : b' ≠ b := hn3 b' (mem_map.2 ⟨_, h1, rfl⟩) b (mem_cons_self)
  rw [k b' hne]; exact H.2.2 b' o'' (mem_append_left _ h1)
 ·rcases mem_cons.1 h1 with h2 | h2
  ·cases h2; exact e
  ·have hne : b' ≠ b := fun hb => hn2.1 (hb ▸ mem_map.2 ⟨_, h2, rfl⟩)
   rw [k b' hne]; exact H.2.2 b' o'' (mem_append_right _ (mem_cons_of_mem _ h2))
end
def lk : Fm → Nat → Option Value
 | [], _ => none
 | (j, v) :: r, i => match Nat.beq j i with
  | true => some v
  | false => lk r i
structure Fr (n : Nat) (L : Fm) (a : Act) : Prop where
 defers : a.defers = []
 size : a.tmps.size = n
 get : ∀ i v, lk L i = some v → a.tmps[i]? = some v
def ev (L : Fm) : Operand → Option Value
 | .tmp t => lk L t
 | .const v => some v
 | .global g => some (.pointer (some ⟨g, 0, none⟩))
 | .func f => some (.func (.func f) #[] #[])
def evs (L : Fm) : List Operand → Option (List Value)
 | [] => some []
 | x :: r => match ev L x, evs L r with
  | some v, some vs => some (v :: vs)
  | _, _ => none
section
variable {n : Nat} {L L' : Fm} {a : Act} {v : Value}
theorem Fr.ev {x : Operand} (h : Fr n L a) (e : Sl.ev L x = some v) : a.eval x = v := by
 cases x with
 | tmp t => have := h.get t v e; simp [Act.eval, Array.getD_eq_getD_getElem?, this]
 | const u => simpa [Sl.ev, Act.eval] using e
 | global g => simpa [Sl.ev, Act.eval] using e
 | func f => simpa [Sl.ev, Act.eval] using e
theorem Fr.evs {xs : List Operand} {vs : List Value} (h : Fr n L a) (e : Sl.evs L xs = some vs) : xs.map a.eval = vs := by
 induction xs generalizing vs with
 | nil => simpa [Sl.evs] using e
 | cons x r ih =>
  simp only [Sl.evs] at e
  split at e
  ·rename_i u us hu hus
   cases e
   simp [h.ev hu, ih hus]
  ·cases e
theorem Fr.put {d : Nat} (h : Fr n L a) (hd : d < n) (v : Value) : Fr n ((d, v) :: L) (a.put (some d) v) := by
 refine ⟨h.defers, by simpa [Act.put] using h.size, fun i u e => ?_⟩
 simp only [lk] at e
 simp only [Act.put]
 split at e
 ·rename_i hb
  have hi := Nat.eq_of_beq_eq_true hb
  subst hi
  cases e
  simp [h.size, hd]
 ·rename_i hb
  have hi := Nat.ne_of_beq_eq_false hb
  rw [Array.getElem?_setIfInBounds_ne hi]
  exact h.get i u e
theorem Fr.putNone (h : Fr n L a) (v : Value) : Fr n L (a.put none v) := h
theorem Fr.sub (h : Fr n L a) (s : ∀ i v, lk L' i = some v → lk L i = some v) : Fr n L' a := ⟨h.defers, h.size, fun i v e => h.get i v (s i v e)⟩
end
def Fsub (L L' : Fm) : Prop := ∀ i v, lk L' i = some v → lk L i = some v
theorem Fsub.nil {L : Fm} : Fsub L [] := fun _ _ e => by cases e
theorem Fsub.cons {L L' : Fm} {i : Nat} {v : Value} (h : lk L i = some v) (k : Fsub L L') : Fsub L ((i, v) :: L') := by
 intro j u e
 simp only [lk] at e
 split at e
 ·rename_i hb
  have hi := Nat.eq_of_beq_eq_true hb
  subst hi
  cases e; exact h
 ·exact k j u e
theorem Fsub.refl (L : Fm) : Fsub L L := fun _ _ e => e
def Hsub (H H' : HH) : Prop := ∃ r, H.flatten.Perm (H'.flatten ++ r)
theorem Hsub.on {g : World} {H H' : HH} {w : World} (s : Hsub H H') (h : on g H.flatten w) : on g H'.flatten w :=
 let ⟨_, p⟩ := s
 (h.perm p).left
class Rem (x : Hp) (H : HH) (H' : outParam HH) : Prop where
 p : H.flatten.Perm (x ++ H'.flatten)
instance (priority := 1010) Rem.head (x : Hp) (H : HH) : Rem x (x :: H) H := ⟨by simp⟩
instance (priority := 1000) Rem.tail (x y : Hp) (H H' : HH) [k : Rem x H H'] : Rem x (y :: H) (y :: H') := ⟨by
 simp only [flatten_cons]
 refine (List.Perm.append_left y k.p).trans ?_
 rw [← append_assoc, ← append_assoc]
 exact List.Perm.append_right _ perm_append_comm⟩
instance (priority := 1005) Rem.nil (H : HH) : Rem [] H H := ⟨by simp⟩
class Picks (xs : HH) (H : HH) (H' : outParam HH) : Prop where
 p : H.flatten.Perm (xs.flatten ++ H'.flatten)
instance Picks.nil (H : HH) : Picks [] H H := ⟨by simp⟩
instance Picks.cons (x : Hp) (xs H H' H'' : HH) [k : Rem x H H'] [l : Picks xs H' H''] : Picks (x :: xs) H H'' := ⟨by
 simp only [flatten_cons, append_assoc]
 exact k.p.trans (List.Perm.append_left x l.p)⟩
instance Picks.app0 (ys H r : HH) [k : Picks ys H r] : Picks ([] ++ ys) H r := k
instance Picks.app1 (x : Hp) (xs ys H r : HH) [k : Picks (x :: (xs ++ ys)) H r] : Picks ((x :: xs) ++ ys) H r := k
theorem Hsub.of_picks {H H' r : HH} (k : Picks H' H r) : Hsub H H' := ⟨r.flatten, k.p⟩
class Foc (b : Nat) (o : outParam Obj) (H : HH) (K : outParam (Obj → HH)) : Prop where
 p : ∃ l r, H.flatten = l ++ (b, o) :: r ∧ ∀ x, (K x).flatten = l ++ (b, x) :: r
instance (priority := 1010) Foc.head (b : Nat) (o : Obj) (h : Hp) (H : HH) : Foc b o (((b, o) :: h) :: H) (fun x => ((b, x) :: h) :: H) :=
 ⟨[], h ++ H.flatten, by simp, by simp⟩
instance (priority := 1000) Foc.tail (b : Nat) (o : Obj) (h : Hp) (H : HH) (K : Obj → HH) [k : Foc b o H K] : Foc b o (h :: H) (fun x => h :: K x) :=
 ⟨let ⟨l, r, e, f⟩ := k.p; ⟨h ++ l, r, by simp [e], fun x => by simp [f x]⟩⟩
theorem Foc.mem {b : Nat} {o : Obj} {H : HH} {K : Obj → HH} (k : Foc b o H K) : (b, o) ∈ H.flatten := by
 obtain ⟨l, r, e, _⟩ := k.p
 rw [e]; simp
theorem Foc.heap {b : Nat} {o : Obj} {H : HH} {K : Obj → HH} {g w : World} (k : Foc b o H K) (h : on g H.flatten w) : w.heap[b]? = some o := h.2.2 b o k.mem
theorem Foc.set {b : Nat} {o o' : Obj} {H : HH} {K : Obj → HH} {g w w' : World} (k : Foc b o H K) (h : on g H.flatten w) (a : Amb w w') (e : w'.heap[b]? = some o')
  (f : ∀ k, k ≠ b → w'.heap[k]? = w.heap[k]?) : on g (K o').flatten w' := by
 obtain ⟨l, r, e1, e2⟩ := k.p
 rw [e1] at h
 rw [e2]
 exact h.set a e f
class Swp (x : Hp) (H : HH) (K : outParam (Hp → HH)) : Prop where
 p : ∃ l r, H.flatten = l ++ x ++ r ∧ ∀ y, (K y).flatten = l ++ y ++ r
instance (priority := 1010) Swp.head (x : Hp) (H : HH) : Swp x (x :: H) (fun y => y :: H) := ⟨[], H.flatten, by simp, by simp⟩
instance (priority := 1000) Swp.tail (x h : Hp) (H : HH) (K : Hp → HH) [k : Swp x H K] : Swp x (h :: H) (fun y => h :: K y) :=
 ⟨let ⟨l, r, e, f⟩ := k.p; ⟨h ++ l, r, by simp [e], fun y => by simp [f y]⟩⟩
end Go.Sl

namespace Go.Sl
open Go
theorem ca {α : Type _} {a : α} {as_ bs : List α} : (a :: as_) ++ bs = a :: (as_ ++ bs) := rfl
theorem na {α : Type _} {bs : List α} : [] ++ bs = bs := rfl
structure D (g : World) (Q : Exit → Act → World → Prop) (e : Exit) (n : Nat) (L : Fm) (H : HH) : Prop where
 run : ∀ a w, Fr n L a → on g H.flatten w → Q e a w
structure W (g : World) (P : Program) (c : Code) (Q : Exit → Act → World → Prop) (n : Nat) (L : Fm) (H : HH) : Prop where
 run : ∀ a w, Fr n L a → on g H.flatten w → c.wp P Q a w
def wxr (q : Bool) (g : World) (P : Program) (ops : Array Oper) (Q : Exit → Act → World → Prop) (os : List Oper) (H : HH) (a : Act) (w : World) : Prop :=
 match q with
  | false => wpList P ops Q os a w
  | true => wpQuiet P ops (on g H.flatten) (fun a' => ∀ w', on g H.flatten w' → Q .normal a' w') os a
structure WX (q : Bool) (g : World) (P : Program) (ops : Array Oper) (Q : Exit → Act → World → Prop) (n : Nat) (os : List Oper) (L : Fm) (H : HH) : Prop where
 run : ∀ a w, Fr n L a → on g H.flatten w → wxr q g P ops Q os H a w
instance {g : World} {Q : Exit → Act → World → Prop} {e : Exit} {n : Nat} {L : Fm} {H : HH} : CoeFun (D g Q e n L H) fun _ => ∀ a w, Fr n L a → on g H.flatten w → Q e a w := ⟨D.run⟩
instance {g : World} {P : Program} {c : Code} {Q : Exit → Act → World → Prop} {n : Nat} {L : Fm} {H : HH} : CoeFun (W g P c Q n L H) fun _ => ∀ a w, Fr n L a → on g H.flatten w → c.wp P Q a w := ⟨W.run⟩
instance {q : Bool} {g : World} {P : Program} {ops : Array Oper} {Q : Exit → Act → World → Prop} {n : Nat} {os : List Oper} {L : Fm} {H : HH} : CoeFun (WX q g P ops Q n os L H) fun _ => ∀ a w, Fr n L a → on g H.flatten w → wxr q g P ops Q os H a w := ⟨WX.run⟩
structure Ct (P : Program) (f : FuncId) (args : List Value) (pre : HH) (post : Value → HH → Prop) : Prop where
 calls : ∀ (g : World) (R : Hp) (w : World), on g (pre ++ [R]).flatten w → Calls P f args.toArray w (fun e w' => ∃ v H', e = .returned v ∧ post v H' ∧ on g (H' ++ [R]).flatten w')
def cpost (g : World) (post : Value → HH → Prop) (R : Hp) : Ending → World → Prop := fun e w' => ∃ v H', e = .returned v ∧ post v H' ∧ on g (H' ++ [R]).flatten w'
class Enters (P : Program) (f : FuncId) : Prop where
 e : ∃ fn, P.funcs[f]? = some fn ∧ (fn.name == "runtime.NumGoroutine") = false ∧ fn.body.isNone = false
def argsFm : Nat → List Value → Fm
 | _, [] => []
 | k, v :: r => (k, v) :: argsFm (k + 1) r
theorem lk_argsFm : ∀ (vs : List Value) (k i : Nat) (v : Value), lk (argsFm k vs) i = some v → k ≤ i ∧ vs[i - k]? = some v
 | [], _, _, _, h => by cases h
 | u :: r, k, i, v, h => by
  simp only [argsFm, lk] at h
  split at h
  ·rename_i hb
   have hi := Nat.eq_of_beq_eq_true hb
   subst hi
   cases h
   simp
  ·have h2 := lk_argsFm r (k + 1) i v h
   obtain ⟨h3, h4⟩ := h2
   refine ⟨by omega, ?_⟩
   rw [show i - k = (i - (k + 1)) + 1 by omega, List.getElem?_cons_succ]
   exact h4
section
variable {g : World} {P : Program} {ops : Array Oper} {Q : Exit → Act → World → Prop} {n : Nat} {os rest : List Oper} {L L' : Fm} {H H' : HH} {q : Bool}
theorem Ct.mk' {f : FuncId} {args : List Value} {pre : HH} {post : Value → HH → Prop} {fn : Func} {c : Code} (hf : P.funcs[f]? = some fn) (hb : fn.body = some c) (hn : fn.ntmps = n) (ha : Nat.ble args.length n = true)
  (h : ∀ (g : World) (R : Hp), W g P c (bodyPost P fn (cpost g post R)) n (argsFm 0 args) (pre ++ [R])) : Ct P f args pre post := by
 have ha := Nat.le_of_ble_eq_true ha
 refine ⟨fun g R w hw => calls_of_wp hf hb (h g R _ w ⟨rfl, ?_, ?_⟩ hw)⟩
 ·simp; omega
 ·intro i v e
  obtain ⟨_, h2⟩ := lk_argsFm _ _ _ _ e
  have hi : i < args.length := by
   have := (List.getElem?_eq_some_iff.1 h2).1; omega
  simp only [Nat.sub_zero] at h2
  rw [Array.getElem?_append_left (by simpa using hi)]
  simpa using h2
theorem Ct.mono {f : FuncId} {args : List Value} {pre : HH} {post post' : Value → HH → Prop} (h : Ct P f args pre post) (k : ∀ v H', post v H' → post' v H') : Ct P f args pre post' :=
 ⟨fun g R w hw => (h.calls g R w hw).mono fun _ _ ⟨v, H', e, p, o⟩ => ⟨v, H', e, k v H' p, o⟩⟩
theorem Ct.perm {f : FuncId} {args : List Value} {pre pre' : HH} {post : Value → HH → Prop} (p : pre.flatten.Perm pre'.flatten) (h : Ct P f args pre post) : Ct P f args pre' post :=
 ⟨fun g R w hw => h.calls g R w (hw.perm (by simpa using (List.Perm.append_right R p.symm)))⟩
-- weakening
theorem W.sub {c : Code} (f : Fsub L L') (s : Hsub H H') (h : W g P c Q n L' H') : W g P c Q n L H := .mk fun a w ha hw => h a w (ha.sub f) (s.on hw)
theorem D.sub {e : Exit} (f : Fsub L L') (s : Hsub H H') (h : D g Q e n L' H') : D g Q e n L H := .mk fun a w ha hw => h a w (ha.sub f) (s.on hw)
theorem WX.sub (f : Fsub L L') (s : Hsub H H') (h : WX false g P ops Q n os L' H') : WX false g P ops Q n os L H := .mk fun a w ha hw => h a w (ha.sub f) (s.on hw)
theorem W.perm {c : Code} (s : H.flatten.Perm H'.flatten) (h : W g P c Q n L H') : W g P c Q n L H := .mk fun a w ha hw => h a w ha (hw.perm s)
theorem WX.perm (s : H.flatten.Perm H'.flatten) (h : WX false g P ops Q n os L H') : WX false g P ops Q n os L H := .mk fun a w ha hw => h a w ha (hw.perm s)
theorem D.perm {e : Exit} (s : H.flatten.Perm H'.flatten) (h : D g Q e n L H') : D g Q e n L H := .mk fun a w ha hw => h a w ha (hw.perm s)
theorem W.flat {c : Code} (s : H.flatten = H'.flatten) (h : W g P c Q n L H') : W g P c Q n L H := .mk fun a w ha hw => h a w ha (s ▸ hw)
theorem WX.flat (s : H.flatten = H'.flatten) (h : WX q g P ops Q n os L H') : WX q g P ops Q n os L H := by
 refine .mk fun a w ha hw => ?_
 have := h a w ha (s ▸ hw)
 unfold wxr at this ⊢
 rw [← s] at this
 exact this
theorem D.flat {e : Exit} (s : H.flatten = H'.flatten) (h : D g Q e n L H') : D g Q e n L H := .mk fun a w ha hw => h a w ha (s ▸ hw)
theorem W.keep {c : Code} (f : Fsub L L') (h : W g P c Q n L' H) : W g P c Q n L H := .mk fun a w ha hw => h a w (ha.sub f) hw
theorem D.keep {e : Exit} (f : Fsub L L') (h : D g Q e n L' H) : D g Q e n L H := .mk fun a w ha hw => h a w (ha.sub f) hw
theorem D.as {e : Exit} (t : Nat) (v : Value) {u : Value} (ht : lk L t = some u) (eq : u = v) (h : D g Q e n ((t, v) :: L) H) : D g Q e n L H := D.keep (Fsub.cons (eq ▸ ht) (Fsub.refl L)) h
theorem W.as {c : Code} (t : Nat) (v : Value) {u : Value} (ht : lk L t = some u) (eq : u = v) (h : W g P c Q n ((t, v) :: L) H) : W g P c Q n L H := W.keep (Fsub.cons (eq ▸ ht) (Fsub.refl L)) h
-- codes
theorem W.skip (h : D g Q .normal n L H) : W g P .skip Q n L H := .mk fun a w ha hw => wp_skip (h a w ha hw)
theorem W.exit {id : Nat} (h : D g Q (.exit id) n L H) : W g P (.exit id) Q n L H := .mk fun a w ha hw => wp_exit (h a w ha hw)
theorem W.ret (h : D g Q .ret n L H) : W g P .ret Q n L H := .mk fun a w ha hw => wp_ret (h a w ha hw)
theorem W.seq {x y : Code} (h : W g P x (Exit.then (y.wp P Q) Q) n L H) : W g P (.seq x y) Q n L H := .mk fun a w ha hw => wp_seq (h a w ha hw)
theorem W.block {id : Nat} {c : Code} (h : W g P c (Exit.inBlock id Q) n L H) : W g P (.block id c) Q n L H := .mk fun a w ha hw => wp_block (h a w ha hw)
theorem W.region {id : Nat} {l : List Oper} (h : WX false g P l.toArray Q n l L H) : W g P (.region id l.toArray false) Q n L H := .mk fun a w ha hw => wp_region_lit (h a w ha hw)
theorem W.quiet {id : Nat} {l : List Oper} (hm : P.follows .mixedOrders = true) (hB : Region.lexB .any l.toArray = true) (h : WX true g P l.toArray Q n l L H) :
  W g P (.region id l.toArray true) Q n L H := .mk fun a w ha hw =>
 wp_region_quiet (C := on g H.flatten) hm hB (hw.heap rfl ⟨rfl, rfl, rfl, Nat.le_refl _⟩) (by simpa [wxr] using h a w ha hw)
theorem W.condT {c : Operand} {x y : Code} (hc : ev L c = some (.bool true)) (h : W g P x Q n L H) : W g P (.cond c x y) Q n L H := .mk fun a w ha hw => wp_cond_true (ha.ev hc) (h a w ha hw)
theorem W.condF {c : Operand} {x y : Code} (hc : ev L c = some (.bool false)) (h : W g P y Q n L H) : W g P (.cond c x y) Q n L H := .mk fun a w ha hw => wp_cond_false (ha.ev hc) (h a w ha hw)
theorem W.cond {c : Operand} {x y : Code} {t : Bool} (hc : ev L c = some (.bool t)) (ht : t = true → W g P x Q n L H) (hf : t = false → W g P y Q n L H) : W g P (.cond c x y) Q n L H := by
 cases t
 ·exact W.condF hc (hf rfl)
 ·exact W.condT hc (ht rfl)
theorem W.condD {c : Operand} {x y : Code} {p : Prop} [Decidable p] (hc : ev L c = some (.bool (decide p))) (ht : p → W g P x Q n L H) (hf : ¬ p → W g P y Q n L H) : W g P (.cond c x y) Q n L H :=
 W.cond hc (fun h => ht (of_decide_eq_true h)) (fun h => hf (of_decide_eq_false h))
theorem W.condP {c : Operand} {x y : Code} {p : Prop} [Decidable p] (hc : ev L c = some (.bool (decide p))) (hp : p) (h : W g P x Q n L H) : W g P (.cond c x y) Q n L H := W.condD hc (fun _ => h) (fun k => absurd hp k)
theorem W.condN {c : Operand} {x y : Code} {p : Prop} [Decidable p] (hc : ev L c = some (.bool (decide p))) (hp : ¬ p) (h : W g P y Q n L H) : W g P (.cond c x y) Q n L H := W.condD hc (fun k => absurd k hp) (fun _ => h)
-- ends
theorem D.seq {y : Code} (h : W g P y Q n L H) : D g (Exit.then (y.wp P Q) Q) .normal n L H := .mk fun a w ha hw => h a w ha hw
theorem D.blk {id : Nat} (h : D g Q .normal n L H) : D g (Exit.inBlock id Q) .normal n L H := .mk fun a w ha hw => h a w ha hw
theorem D.blkR {id : Nat} (h : D g Q .ret n L H) : D g (Exit.inBlock id Q) .ret n L H := .mk fun a w ha hw => h a w ha hw
theorem D.blkX {id : Nat} (h : D g Q .normal n L H) : D g (Exit.inBlock id Q) (.exit id) n L H := .mk fun a w ha hw => by
 show (if id = id then _ else _); rw [if_pos rfl]; exact h a w ha hw
theorem D.blkY {id id' : Nat} (ne : Nat.beq id' id = false) (h : D g Q (.exit id') n L H) : D g (Exit.inBlock id Q) (.exit id') n L H := .mk fun a w ha hw => by
 show (if id' = id then _ else _); rw [if_neg (Nat.ne_of_beq_eq_false ne)]; exact h a w ha hw
-- loops
theorem least {S : Nat → Prop} : ∀ (m : Nat), S m → ∃ k, S k ∧ ∀ j, S j → k ≤ j := by
 intro m
 induction m using Nat.strongRecOn with
 | _ m ih =>
  intro h
  by_cases h2 : ∃ j, S j ∧ j < m
  ·obtain ⟨j, hj, hlt⟩ := h2
   exact ih j hlt hj
  ·exact ⟨m, h, fun j hj => Nat.le_of_not_lt fun hlt => h2 ⟨j, hj, hlt⟩⟩
def Round {α : Type} (g : World) (p : α → Prop) (L : α → Fm) (H : α → HH) (μ : α → Nat) (n : Nat) (m : Nat) : Act → World → Prop :=
 fun a w => ∃ y, p y ∧ μ y < m ∧ Fr n (L y) a ∧ on g (H y).flatten w
theorem W.loop {α : Type} {c : Code} (p : α → Prop) (Li : α → Fm) (Hi : α → HH) (μ : α → Nat) (x : α) (hp : p x) (f : Fsub L (Li x)) (s : Hsub H (Hi x))
  (r : ∀ x, p x → W g P c (Exit.then (Round g p Li Hi μ n (μ x)) Q) n (Li x) (Hi x)) : W g P (.loop c) Q n L H := by
 refine .mk fun a w ha hw => ?_
 let I : Act → World → Prop := fun a w => ∃ y, p y ∧ Fr n (Li y) a ∧ on g (Hi y).flatten w
 have hI : I a w := ⟨x, hp, ha.sub f, s.on hw⟩
 let S : Act → World → Nat → Prop := fun a w m => ∃ y, (p y ∧ Fr n (Li y) a ∧ on g (Hi y).flatten w) ∧ μ y = m
 have hS : ∀ a w, I a w → ∃ k, S a w k ∧ ∀ j, S a w j → k ≤ j := fun a w ⟨y, h⟩ => least (μ y) ⟨y, h, rfl⟩
 classical
 let M : Act → World → Nat := fun a w => if h : I a w then Classical.choose (hS a w h) else 0
 refine wp_loop I M hI fun a w hI => ?_
 have hM : M a w = Classical.choose (hS a w hI) := dif_pos hI
 obtain ⟨⟨x, hc, hx⟩, _⟩ := Classical.choose_spec (hS a w hI)
 refine wp_mono (r x hc.1 a w hc.2.1 hc.2.2) fun e a' w' hq => ?_
 cases e <;> first | exact hq | skip
 obtain ⟨y, hy, hlt, hf, ho⟩ := hq
 have hI' : I a' w' := ⟨y, hy, hf, ho⟩
 refine ⟨hI', ?_⟩
 have hM' : M a' w' = Classical.choose (hS a' w' hI') := dif_pos hI'
 have h2 := (Classical.choose_spec (hS a' w' hI')).2 (μ y) ⟨y, ⟨hy, hf, ho⟩, rfl⟩
 omega
theorem D.round {α : Type} {p : α → Prop} {Li : α → Fm} {Hi : α → HH} {μ : α → Nat} {m : Nat} (y : α) (hp : p y) (hm : μ y < m) (f : Fsub L (Li y)) (s : Hsub H (Hi y)) :
  D g (Exit.then (Round g p Li Hi μ n m) Q) .normal n L H := .mk fun _ _ ha hw => ⟨y, hp, hm, ha.sub f, s.on hw⟩
theorem D.roundX {N : Act → World → Prop} {id : Nat} (h : D g Q (.exit id) n L H) : D g (Exit.then N Q) (.exit id) n L H := .mk fun a w ha hw => h a w ha hw
theorem D.roundR {N : Act → World → Prop} (h : D g Q .ret n L H) : D g (Exit.then N Q) .ret n L H := .mk fun a w ha hw => h a w ha hw
end
end Go.Sl

namespace Go.Sl
open Go List
class TU (P : Program) (t : Nat) (d : outParam TypeDesc) : Prop where
 h : P.underlying t = some d
def aggOf : TypeDesc → Bool
 | .struct _ | .array _ _ => true
 | _ => false
class TL (P : Program) (t : Nat) (k : outParam Nat) (agg : outParam Bool) : Prop where
 s : (P.info? t).map (·.size) = some k
 a : (P.underlying t).map aggOf = some agg
class TF (P : Program) (t f : Nat) (off : outParam Nat) : Prop where
 h : ∃ fs fd, P.underlying t = some (.struct fs) ∧ fs[f]? = some fd ∧ fd.offset = off ∧ ∃ k, (P.info? fd.type).map (·.size) = some (k + 1)
class TFt (P : Program) (t f : Nat) (off ft : outParam Nat) : Prop where
 h : ∃ fs fd, P.underlying t = some (.struct fs) ∧ fs[f]? = some fd ∧ fd.offset = off ∧ fd.type = ft
class TZ (P : Program) (t : Nat) (zs : outParam (List Value)) : Prop where
 h : ∃ i z, P.info? t = some i ∧ i.zero = some z ∧ z.cells = zs.toArray
class TP (P : Program) (t : Nat) (pl : outParam (List (Nat × Nat))) : Prop where
 h : ∃ fs, P.underlying t = some (.struct fs) ∧ fs.toList.mapM (fun f => (P.info? f.type).map fun i => (f.offset, i.size)) = some pl
def fieldInfo (P : Program) (t f : Nat) : Option (Nat × Nat × Nat) := match P.underlying t with
 | some (.struct fs) => (fs[f]?).bind fun fd => (P.info? fd.type).map fun i => (fd.offset, fd.type, i.size)
 | _ => none
def placesOf (P : Program) (t : Nat) : Option (List (Nat × Nat)) := match P.underlying t with
 | some (.struct fs) => fs.toList.mapM fun f => (P.info? f.type).map fun i => (f.offset, i.size)
 | _ => none
def setAt : List Value → Nat → List Value → List Value
 | cs, _, [] => cs
 | cs, i, v :: vs => setAt (cs.set i v) (i + 1) vs
section
variable {P : Program} {w : World}
theorem TZ.of {t : Nat} {zs : List Value} (h : ((P.info? t).bind fun i => i.zero.map fun z => z.cells.toList) = some zs) : TZ P t zs := by
 cases hi : P.info? t with
 | none => simp [hi] at h
 | some i =>
  cases hz : i.zero with
  | none => simp [hi, hz] at h
  | some z => simp only [hi, hz, Option.bind_some, Option.map_some, Option.some.injEq] at h; exact ⟨i, z, hi, hz, by simp [← h]⟩
theorem fieldInfo_of {t f off ft k : Nat} (h : fieldInfo P t f = some (off, ft, k)) : ∃ fs fd, P.underlying t = some (.struct fs) ∧ fs[f]? = some fd ∧ fd.offset = off ∧ fd.type = ft ∧ (P.info? fd.type).map (·.size) = some k := by
 unfold fieldInfo at h
 split at h
 ·rename_i fs hu
  cases hf : fs[f]? with
  | none => simp [hf] at h
  | some fd =>
   cases hi : P.info? fd.type with
   | none => simp [hf, hi] at h
   | some i =>
    simp only [hf, hi, Option.bind_some, Option.map_some, Option.some.injEq, Prod.mk.injEq] at h
    exact ⟨fs, fd, hu, hf, h.1, h.2.1, by simp [hi, h.2.2]⟩
 ·cases h
theorem TF.of {t f off ft k : Nat} (h : fieldInfo P t f = some (off, ft, k + 1)) : TF P t f off :=
 let ⟨fs, fd, h1, h2, h3, _, h5⟩ := fieldInfo_of h
 ⟨fs, fd, h1, h2, h3, k, h5⟩
theorem TFt.of {t f off ft k : Nat} (h : fieldInfo P t f = some (off, ft, k)) : TFt P t f off ft :=
 let ⟨fs, fd, h1, h2, h3, h4, _⟩ := fieldInfo_of h
 ⟨fs, fd, h1, h2, h3, h4⟩
theorem TP.of {t : Nat} {pl : List (Nat × Nat)} (h : placesOf P t = some pl) : TP P t pl := by
 unfold placesOf at h
 split at h
 ·exact ⟨_, ‹_›, h⟩
 ·cases h
theorem TL.sizeOf {t k : Nat} {b : Bool} (h : TL P t k b) : (sizeOf t).run P w = .ok k w := by
 obtain ⟨s, _⟩ := h
 cases hi : P.info? t with
 | none => simp [hi] at s
 | some i => simp [hi] at s; simp [Go.sizeOf, typeInfo, hi, s]
theorem TL.isAgg {t k : Nat} {b : Bool} (h : TL P t k b) : (isAgg t).run P w = .ok b w := by
 obtain ⟨_, a⟩ := h
 cases hu : P.underlying t with
 | none => simp [hu] at a
 | some d => simp only [hu, Option.map_some, Option.some.injEq] at a; subst a; cases d <;> simp [Go.isAgg, underlying, hu, aggOf]
theorem TU.run {t : Nat} {d : TypeDesc} (h : TU P t d) : (underlying t).run P w = .ok d w := by simp [underlying, h.h]
theorem TZ.run {t : Nat} {zs : List Value} (h : TZ P t zs) : ∃ z, (zeroValue t).run P w = .ok z w ∧ z.cells = zs.toArray := by
 obtain ⟨i, z, h1, h2, h3⟩ := h.h
 exact ⟨z, by simp [zeroValue, typeInfo, h1, h2], h3⟩
theorem add_none (b i k : Nat) : Addr.add ⟨b, i, none⟩ k = ⟨b, i + k, none⟩ := by
 unfold Addr.add; split <;> simp_all
theorem cell_bk {b i T : Nat} {cs : List Value} {fr : Nat × Nat} (h : w.heap[b]? = some (.cells cs.toArray T fr)) : w.cell? ⟨b, i, none⟩ = cs[i]? := by
 simp [World.cell?, h]
theorem frozen_bk {b i T : Nat} {cs : List Value} (h : w.heap[b]? = some (.cells cs.toArray T (0, 0))) : w.frozen? ⟨b, i, none⟩ = false := by
 simp [World.frozen?, h]
end
section
variable {g : World} {P : Program} {ops : Array Oper} {Q : Exit → Act → World → Prop} {n : Nat} {os rest : List Oper} {L L' : Fm} {H H' : HH} {q : Bool}
variable {d : Nat} {op : Op} {ty : TypeId} {pos : String} {af : Array Edge} {v : Value}
theorem WX.nil (k : D g Q .normal n L H) : WX q g P ops Q n [] L H := by
 refine .mk fun a w ha hw => ?_
 cases q
 ·exact k a w ha hw
 ·show wpQuiet P ops (on g H.flatten) (fun a' => ∀ w', on g H.flatten w' → Q .normal a' w') [] a
  exact wpQuiet_nil fun w' hw' => k a w' ha hw'
theorem WX.val (he : ∀ a, Fr n L a → ∀ w, on g H.flatten w → (execOp a.eval ⟨some d, op, ty, pos, af, none⟩).run P w = .ok (.value v) w) (hd : Nat.blt d n = true)
  (k : WX q g P ops Q n rest ((d, v) :: L) H) : WX q g P ops Q n (⟨some d, op, ty, pos, af, none⟩ :: rest) L H := by
 refine .mk fun a w ha hw => ?_
 have hd' : d < n := Nat.le_of_ble_eq_true hd
 have hk := k (a.put (some d) v) w (ha.put hd' v) hw
 cases q
 ·refine wpList_plain rfl fun K hK => ?_
  unfold Oper.wp
  rw [he a ha w hw]
  exact hK _ _ hk
 ·refine wpQuiet_step fun K hK => ?_
  simp only [Region.wanted, if_true]
  refine ⟨v, fun w' hw' => ?_, hK _ hk⟩
  unfold Oper.quietAt
  rw [he a ha w' hw']
  exact ⟨rfl, rfl⟩
theorem WX.eff (hd : Nat.blt d n = true) (he : ∀ a w, Fr n L a → on g H.flatten w → ∃ v w' H', (execOp a.eval ⟨some d, op, ty, pos, af, none⟩).run P w = .ok (.value v) w' ∧ on g (List.flatten H') w' ∧
   WX false g P ops Q n rest ((d, v) :: L) H') : WX false g P ops Q n (⟨some d, op, ty, pos, af, none⟩ :: rest) L H := by
 refine .mk fun a w ha hw => ?_
 have hd' : d < n := Nat.le_of_ble_eq_true hd
 obtain ⟨v, w', H', hr, ho, k⟩ := he a w ha hw
 refine wpList_plain rfl fun K hK => ?_
 unfold Oper.wp
 rw [hr]
 exact hK _ _ (k _ _ (ha.put hd' v) ho)
theorem WX.effN (he : ∀ a w, Fr n L a → on g H.flatten w → ∃ v w' H', (execOp a.eval ⟨none, op, ty, pos, af, none⟩).run P w = .ok (.value v) w' ∧ on g (List.flatten H') w' ∧
   WX false g P ops Q n rest L H') : WX false g P ops Q n (⟨none, op, ty, pos, af, none⟩ :: rest) L H := by
 refine .mk fun a w ha hw => ?_
 obtain ⟨v, w', H', hr, ho, k⟩ := he a w ha hw
 refine wpList_plain rfl fun K hK => ?_
 unfold Oper.wp
 rw [hr]
 exact hK _ _ (k _ _ (ha.putNone v) ho)
theorem WX.effS (he : ∀ a w, Fr n L a → on g H.flatten w → ∃ w' H', (execOp a.eval ⟨none, op, ty, pos, af, none⟩).run P w = .ok .skip w' ∧ on g (List.flatten H') w' ∧
   WX false g P ops Q n rest L H') : WX false g P ops Q n (⟨none, op, ty, pos, af, none⟩ :: rest) L H := by
 refine .mk fun a w ha hw => ?_
 obtain ⟨w', H', hr, ho, k⟩ := he a w ha hw
 refine wpList_plain rfl fun K hK => ?_
 unfold Oper.wp
 rw [hr]
 exact hK _ _ (k _ _ (ha.putNone undef) ho)
-- guards
theorem WX.gy {dst : Option Tmp} {j t : Nat} {want : Bool} (hj : (ops[j]?).bind (·.dst) = some t) (ht : lk L t = some (.bool want)) (k : WX q g P ops Q n (⟨dst, op, ty, pos, af, none⟩ :: rest) L H) :
  WX q g P ops Q n (⟨dst, op, ty, pos, af, some (j, want)⟩ :: rest) L H := by
 refine .mk fun a w ha hw => ?_
 have hy : yielded ops a.tmps j = some want := by simp [yielded, hj, ha.get _ _ ht]
 have := k a w ha hw
 unfold wxr at this ⊢
 cases q
 ·simp only [wpList, Region.wanted, hy, beq_self_eq_true, if_true] at this ⊢
  exact this
 ·simp only [wpQuiet, Region.wanted, hy, beq_self_eq_true, if_true] at this ⊢
  exact this
theorem WX.gn {j t : Nat} {want b : Bool} (hj : (ops[j]?).bind (·.dst) = some t) (ht : lk L t = some (.bool b)) (hne : (b == want) = false) (hd : Nat.blt d n = true) (k : WX q g P ops Q n rest ((d, undef) :: L) H) :
  WX q g P ops Q n (⟨some d, op, ty, pos, af, some (j, want)⟩ :: rest) L H := by
 refine .mk fun a w ha hw => ?_
 have hd' : d < n := Nat.le_of_ble_eq_true hd
 have hy : (yielded ops a.tmps j == some want) = false := by simp [yielded, hj, ha.get _ _ ht]; simpa using hne
 have := k (a.put (some d) undef) w (ha.put hd' undef) hw
 unfold wxr at this ⊢
 cases q
 ·simp only [wpList, Region.wanted, hy, Bool.false_eq_true, if_false]
  exact this
 ·simp only [wpQuiet, Region.wanted, hy, Bool.false_eq_true, if_false]
  exact this
theorem WX.split (t : Nat) {b : Bool} (ht : lk L t = some (.bool b)) (h1 : b = true → WX q g P ops Q n os ((t, .bool true) :: L) H) (h2 : b = false → WX q g P ops Q n os ((t, .bool false) :: L) H) : WX q g P ops Q n os L H := by
 have f : ∀ c, b = c → Fsub L ((t, .bool c) :: L) := fun c hc => Fsub.cons (hc ▸ ht) (Fsub.refl L)
 cases b
 ·exact .mk fun a w ha hw => h2 rfl a w (ha.sub (f _ rfl)) hw
 ·exact .mk fun a w ha hw => h1 rfl a w (ha.sub (f _ rfl)) hw
theorem WX.splitD (t : Nat) {p : Prop} [Decidable p] (ht : lk L t = some (.bool (decide p))) (h1 : p → WX q g P ops Q n os ((t, .bool true) :: L) H) (h2 : ¬ p → WX q g P ops Q n os ((t, .bool false) :: L) H) : WX q g P ops Q n os L H :=
 WX.split t ht (fun h => h1 (of_decide_eq_true h)) (fun h => h2 (of_decide_eq_false h))
theorem WX.gT {dst : Option Tmp} {j t : Nat} {want : Bool} {p : Prop} [Decidable p] (hj : (ops[j]?).bind (·.dst) = some t) (ht : lk L t = some (.bool (decide p))) (hp : p) (k : WX q g P ops Q n (⟨dst, op, ty, pos, af, some (j, want)⟩ :: rest) ((t, .bool true) :: L) H) :
  WX q g P ops Q n (⟨dst, op, ty, pos, af, some (j, want)⟩ :: rest) L H := WX.splitD t ht (fun _ => k) (fun h => absurd hp h)
theorem WX.gF {dst : Option Tmp} {j t : Nat} {want : Bool} {p : Prop} [Decidable p] (hj : (ops[j]?).bind (·.dst) = some t) (ht : lk L t = some (.bool (decide p))) (hp : ¬ p) (k : WX q g P ops Q n (⟨dst, op, ty, pos, af, some (j, want)⟩ :: rest) ((t, .bool false) :: L) H) :
  WX q g P ops Q n (⟨dst, op, ty, pos, af, some (j, want)⟩ :: rest) L H := WX.splitD t ht (fun h => absurd h hp) (fun _ => k)
theorem WX.as (t : Nat) (v : Value) {u : Value} (ht : lk L t = some u) (e : u = v) (h : WX q g P ops Q n os ((t, v) :: L) H) : WX q g P ops Q n os L H :=
 .mk fun a w ha hw => h a w (ha.sub (Fsub.cons (e ▸ ht) (Fsub.refl L))) hw
-- plain values
theorem WX.move {x : Operand} (hx : ev L x = some v) (hd : Nat.blt d n = true) (k : WX q g P ops Q n rest ((d, v) :: L) H) : WX q g P ops Q n (⟨some d, .move x, ty, pos, af, none⟩ :: rest) L H :=
 WX.val (fun a ha w _ => by simp [execOp, ha.ev hx]) hd k
theorem WX.assign {x : Operand} (hx : ev L x = some v) (hd : Nat.blt d n = true) (k : WX q g P ops Q n rest ((d, v) :: L) H) : WX q g P ops Q n (⟨some d, .assign x, ty, pos, af, none⟩ :: rest) L H :=
 WX.val (fun a ha w _ => by simp [execOp, ha.ev hx]) hd k
theorem WX.pickT {c x y : Operand} (hc : ev L c = some (.bool true)) (hx : ev L x = some v) (hd : Nat.blt d n = true)
  (k : WX q g P ops Q n rest ((d, v) :: L) H) : WX q g P ops Q n (⟨some d, .pick c x y, ty, pos, af, none⟩ :: rest) L H :=
 WX.val (fun a ha w _ => by simp [execOp, ha.ev hc, ha.ev hx, asBool]) hd k
theorem WX.pickF {c x y : Operand} (hc : ev L c = some (.bool false)) (hx : ev L y = some v) (hd : Nat.blt d n = true)
  (k : WX q g P ops Q n rest ((d, v) :: L) H) : WX q g P ops Q n (⟨some d, .pick c x y, ty, pos, af, none⟩ :: rest) L H :=
 WX.val (fun a ha w _ => by simp [execOp, ha.ev hc, ha.ev hx, asBool]) hd k
theorem WX.nilCheck {x : Operand} {p : Addr} (hx : ev L x = some (.pointer (some p))) (hd : Nat.blt d n = true) (k : WX q g P ops Q n rest ((d, .pointer (some p)) :: L) H) :
  WX q g P ops Q n (⟨some d, .nilCheck x, ty, pos, af, none⟩ :: rest) L H :=
 WX.val (fun a ha w _ => by simp [execOp, ha.ev hx]) hd k
-- integers
section ints
variable {x y : Operand} {t t' : Nat} {i j : Int} {kd : IntKind}
theorem run_bin {op : BinOp} {a : Act} {vx vy r : Value} {w : World} (hx : a.eval x = vx) (hy : a.eval y = vy) (h1 : (eqGuard op t x y vx vy).run P w = .ok () w) (h2 : (binOp op t vx vy).run P w = .ok r w) :
  (execOp a.eval ⟨some d, .binOp op t x y t', ty, pos, af, none⟩).run P w = .ok (.value r) w := by
 simp [execOp, hx, hy, h1, h2]
theorem run_eqGuard_int {op : BinOp} {w : World} : (eqGuard op t x y (.int kd i) (.int kd j)).run P w = .ok () w := by
 unfold eqGuard; cases op <;> rfl
theorem WX.add (hx : ev L x = some (.int .i64 i)) (hy : ev L y = some (.int .i64 j)) (hd : Nat.blt d n = true) (r : -9223372036854775808 ≤ i + j ∧ i + j ≤ 9223372036854775807)
  (k : WX q g P ops Q n rest ((d, .int .i64 (i + j)) :: L) H) : WX q g P ops Q n (⟨some d, .binOp .add t x y t', ty, pos, af, none⟩ :: rest) L H :=
 WX.val (fun a ha w _ => run_bin (ha.ev hx) (ha.ev hy) run_eqGuard_int (by simp [binOp, Op.intArith, IntWalk.i64_in _ r])) hd k
theorem WX.sub' (hx : ev L x = some (.int .i64 i)) (hy : ev L y = some (.int .i64 j)) (hd : Nat.blt d n = true) (r : -9223372036854775808 ≤ i - j ∧ i - j ≤ 9223372036854775807)
  (k : WX q g P ops Q n rest ((d, .int .i64 (i - j)) :: L) H) : WX q g P ops Q n (⟨some d, .binOp .sub t x y t', ty, pos, af, none⟩ :: rest) L H :=
 WX.val (fun a ha w _ => run_bin (ha.ev hx) (ha.ev hy) run_eqGuard_int (by simp [binOp, Op.intArith, IntWalk.i64_in _ r])) hd k
theorem WX.mul (hx : ev L x = some (.int .i64 i)) (hy : ev L y = some (.int .i64 j)) (hd : Nat.blt d n = true) (r : -9223372036854775808 ≤ i * j ∧ i * j ≤ 9223372036854775807)
  (k : WX q g P ops Q n rest ((d, .int .i64 (i * j)) :: L) H) : WX q g P ops Q n (⟨some d, .binOp .mul t x y t', ty, pos, af, none⟩ :: rest) L H :=
 WX.val (fun a ha w _ => run_bin (ha.ev hx) (ha.ev hy) run_eqGuard_int (by simp [binOp, Op.intArith, IntWalk.i64_in _ r])) hd k
theorem WX.addW (hx : ev L x = some (.int kd i)) (hy : ev L y = some (.int kd j)) (hd : Nat.blt d n = true)
  (k : WX q g P ops Q n rest ((d, .int kd (kd.wrap (i + j))) :: L) H) : WX q g P ops Q n (⟨some d, .binOp .add t x y t', ty, pos, af, none⟩ :: rest) L H :=
 WX.val (fun a ha w _ => run_bin (ha.ev hx) (ha.ev hy) run_eqGuard_int (by simp [binOp, Op.intArith])) hd k
theorem WX.rem (hx : ev L x = some (.int kd i)) (hy : ev L y = some (.int kd j)) (hd : Nat.blt d n = true) (r : j ≠ 0)
  (k : WX q g P ops Q n rest ((d, .int kd (i.tmod j)) :: L) H) : WX q g P ops Q n (⟨some d, .binOp .rem t x y t', ty, pos, af, none⟩ :: rest) L H :=
 WX.val (fun a ha w _ => run_bin (ha.ev hx) (ha.ev hy) run_eqGuard_int (by simp [binOp, Op.intDiv, r])) hd k
theorem WX.quo (hx : ev L x = some (.int kd i)) (hy : ev L y = some (.int kd j)) (hd : Nat.blt d n = true) (r : j ≠ 0)
  (k : WX q g P ops Q n rest ((d, .int kd (kd.wrap (i.tdiv j))) :: L) H) : WX q g P ops Q n (⟨some d, .binOp .quo t x y t', ty, pos, af, none⟩ :: rest) L H :=
 WX.val (fun a ha w _ => run_bin (ha.ev hx) (ha.ev hy) run_eqGuard_int (by simp [binOp, Op.intDiv, r])) hd k
theorem WX.lss (hx : ev L x = some (.int kd i)) (hy : ev L y = some (.int kd j)) (hd : Nat.blt d n = true)
  (k : WX q g P ops Q n rest ((d, .bool (decide (i < j))) :: L) H) : WX q g P ops Q n (⟨some d, .binOp .lss t x y t', ty, pos, af, none⟩ :: rest) L H :=
 WX.val (fun a ha w _ => run_bin (ha.ev hx) (ha.ev hy) run_eqGuard_int (by simp [binOp, Op.intCmp])) hd k
theorem WX.leq (hx : ev L x = some (.int kd i)) (hy : ev L y = some (.int kd j)) (hd : Nat.blt d n = true)
  (k : WX q g P ops Q n rest ((d, .bool (decide (i ≤ j))) :: L) H) : WX q g P ops Q n (⟨some d, .binOp .leq t x y t', ty, pos, af, none⟩ :: rest) L H :=
 WX.val (fun a ha w _ => run_bin (ha.ev hx) (ha.ev hy) run_eqGuard_int (by simp [binOp, Op.intCmp])) hd k
theorem WX.gtr (hx : ev L x = some (.int kd i)) (hy : ev L y = some (.int kd j)) (hd : Nat.blt d n = true)
  (k : WX q g P ops Q n rest ((d, .bool (decide (j < i))) :: L) H) : WX q g P ops Q n (⟨some d, .binOp .gtr t x y t', ty, pos, af, none⟩ :: rest) L H :=
 WX.val (fun a ha w _ => run_bin (ha.ev hx) (ha.ev hy) run_eqGuard_int (by simp [binOp, Op.intCmp])) hd k
theorem WX.geq (hx : ev L x = some (.int kd i)) (hy : ev L y = some (.int kd j)) (hd : Nat.blt d n = true)
  (k : WX q g P ops Q n rest ((d, .bool (decide (j ≤ i))) :: L) H) : WX q g P ops Q n (⟨some d, .binOp .geq t x y t', ty, pos, af, none⟩ :: rest) L H :=
 WX.val (fun a ha w _ => run_bin (ha.ev hx) (ha.ev hy) run_eqGuard_int (by simp [binOp, Op.intCmp])) hd k
theorem WX.eql (hx : ev L x = some (.int kd i)) (hy : ev L y = some (.int kd j)) (hd : Nat.blt d n = true)
  (k : WX q g P ops Q n rest ((d, .bool (decide (i = j))) :: L) H) : WX q g P ops Q n (⟨some d, .binOp .eql t x y t', ty, pos, af, none⟩ :: rest) L H :=
 WX.val (fun a ha w _ => run_bin (ha.ev hx) (ha.ev hy) run_eqGuard_int (by simp [binOp, Op.intCmp]; rfl)) hd k
theorem WX.neq (hx : ev L x = some (.int kd i)) (hy : ev L y = some (.int kd j)) (hd : Nat.blt d n = true)
  (k : WX q g P ops Q n rest ((d, .bool (decide (¬ i = j))) :: L) H) : WX q g P ops Q n (⟨some d, .binOp .neq t x y t', ty, pos, af, none⟩ :: rest) L H :=
 WX.val (fun a ha w _ => run_bin (ha.ev hx) (ha.ev hy) run_eqGuard_int (by simp [binOp, Op.intCmp, bne]; rfl)) hd k
theorem bits_mask (x : Int) (k : Nat) (hk : k < 63) : IntKind.i64.wrap ((BitVec.ofInt 64 x &&& BitVec.ofInt 64 (2 ^ k - 1 : Int)).toNat : Int) = x % (2 ^ k : Nat) := by
 have h1 : (2 : Nat) ^ k ≤ 2 ^ 62 := Nat.pow_le_pow_right (by decide) (by omega)
 have hp : 0 < (2 : Nat) ^ k := Nat.two_pow_pos k
 have hm : ((2 ^ k - 1 : Int)) = ((2 ^ k - 1 : Nat) : Int) := by
  rw [Int.natCast_sub hp]; norm_cast
 have h2 : (BitVec.ofInt 64 (2 ^ k - 1 : Int)).toNat = 2 ^ k - 1 := by
  rw [hm, BitVec.toNat_ofInt]
  have : (((2 ^ k - 1 : Nat) : Int) % ((2 ^ 64 : Nat) : Int)) = ((2 ^ k - 1 : Nat) : Int) := by
   rw [← Int.natCast_emod, Nat.mod_eq_of_lt (by omega)]
  rw [this]; rfl
 rw [BitVec.toNat_and, h2, Nat.and_two_pow_sub_one_eq_mod, BitVec.toNat_ofInt]
 have e1 : (((x % ((2 ^ 64 : Nat) : Int)).toNat % 2 ^ k : Nat) : Int) = x % (2 ^ k : Nat) := by
  rw [Int.natCast_emod, Int.toNat_of_nonneg (Int.emod_nonneg _ (by decide))]
  exact Int.emod_emod_of_dvd _ (by
   have : (2 ^ k : Nat) ∣ 2 ^ 64 := Nat.pow_dvd_pow 2 (by omega)
   exact_mod_cast this)
 rw [e1]
 have l0 : 0 ≤ x % ((2 ^ k : Nat) : Int) := Int.emod_nonneg _ (by omega)
 have l1 : x % ((2 ^ k : Nat) : Int) < ((2 ^ k : Nat) : Int) := Int.emod_lt_of_pos _ (by omega)
 exact IntWalk.i64_in _ (by omega)
theorem WX.mask (m : Nat) (M : Int) (hx : ev L x = some (.int .i64 i)) (hy : ev L y = some (.int .i64 j)) (hj : j = 2 ^ m - 1) (hm : m < 63) (hM : ((2 ^ m : Nat) : Int) = M) (hd : Nat.blt d n = true)
  (k : WX q g P ops Q n rest ((d, .int .i64 (i % M)) :: L) H) : WX q g P ops Q n (⟨some d, .binOp .and t x y t', ty, pos, af, none⟩ :: rest) L H :=
 WX.val (fun a ha w _ => run_bin (ha.ev hx) (ha.ev hy) run_eqGuard_int (by
  subst hj
  subst hM
  have := bits_mask i m hm
  simp only [binOp, Op.intBits]
  simp only [ne_eq, not_true_eq_false, if_false]
  exact congrArg (fun z => Result.ok (Value.int .i64 z) w) this)) hd k
end ints
-- truth values
section bools
variable {x y : Operand} {t t' : Nat} {b c : Bool}
theorem WX.not (hx : ev L x = some (.bool b)) (hd : Nat.blt d n = true) (k : WX q g P ops Q n rest ((d, .bool (!b)) :: L) H) :
  WX q g P ops Q n (⟨some d, .unOp .not t x, ty, pos, af, none⟩ :: rest) L H :=
 WX.val (fun a ha w _ => by simp [execOp, ha.ev hx, Op.unary]) hd k
theorem WX.notD {p : Prop} [Decidable p] (hx : ev L x = some (.bool (decide p))) (hd : Nat.blt d n = true) (k : WX q g P ops Q n rest ((d, .bool (decide (¬ p))) :: L) H) :
  WX q g P ops Q n (⟨some d, .unOp .not t x, ty, pos, af, none⟩ :: rest) L H :=
 WX.not hx hd (by simpa using k)
end bools
-- pointers against nil
section nils
variable {x y : Operand} {t t' e : Nat} {p : Addr}
theorem run_eqGuard_ptr {op : BinOp} {w : World} {p q : Option Addr} : (eqGuard op t x y (.pointer p) (.pointer q)).run P w = .ok () w := by
 unfold eqGuard; cases op <;> rfl
theorem run_equalIn_ptr {p : Option Addr} {w : World} (k : Nat) [ht : TU P t (.pointer e)] : (Op.equalIn (k + 1) t (.pointer p) (.pointer none)).run P w = .ok p.isNone w := by
 cases p <;> simp [Op.equalIn, ht.run]
theorem run_eql_ptr {p : Option Addr} {w : World} [ht : TU P t (.pointer e)] : (binOp .eql t (.pointer p) (.pointer none)).run P w = .ok (.bool p.isNone) w := by
 show ((do pure (.bool (← Op.equalIn 10000 t (.pointer p) (.pointer none))) : Sem Value)).run P w = _
 rw [Sem.run_bind, run_equalIn_ptr (t := t) (e := e) 9999]; rfl
theorem run_neq_ptr {p : Option Addr} {w : World} [ht : TU P t (.pointer e)] : (binOp .neq t (.pointer p) (.pointer none)).run P w = .ok (.bool (!p.isNone)) w := by
 show ((do pure (.bool (!(← Op.equalIn 10000 t (.pointer p) (.pointer none)))) : Sem Value)).run P w = _
 rw [Sem.run_bind, run_equalIn_ptr (t := t) (e := e) 9999]; rfl
theorem WX.eqPN (hx : ev L x = some (.pointer (some p))) (hy : ev L y = some (.pointer none)) (hd : Nat.blt d n = true) [ht : TU P t (.pointer e)]
  (k : WX q g P ops Q n rest ((d, .bool false) :: L) H) : WX q g P ops Q n (⟨some d, .binOp .eql t x y t', ty, pos, af, none⟩ :: rest) L H :=
 WX.val (fun a ha w _ => run_bin (ha.ev hx) (ha.ev hy) run_eqGuard_ptr (run_eql_ptr (e := e))) hd k
theorem WX.nePN (hx : ev L x = some (.pointer (some p))) (hy : ev L y = some (.pointer none)) (hd : Nat.blt d n = true) [ht : TU P t (.pointer e)]
  (k : WX q g P ops Q n rest ((d, .bool true) :: L) H) : WX q g P ops Q n (⟨some d, .binOp .neq t x y t', ty, pos, af, none⟩ :: rest) L H :=
 WX.val (fun a ha w _ => run_bin (ha.ev hx) (ha.ev hy) run_eqGuard_ptr (run_neq_ptr (e := e))) hd k
theorem WX.eqNN (hx : ev L x = some (.pointer none)) (hy : ev L y = some (.pointer none)) (hd : Nat.blt d n = true) [ht : TU P t (.pointer e)]
  (k : WX q g P ops Q n rest ((d, .bool true) :: L) H) : WX q g P ops Q n (⟨some d, .binOp .eql t x y t', ty, pos, af, none⟩ :: rest) L H :=
 WX.val (fun a ha w _ => run_bin (ha.ev hx) (ha.ev hy) run_eqGuard_ptr (run_eql_ptr (e := e))) hd k
theorem WX.neNN (hx : ev L x = some (.pointer none)) (hy : ev L y = some (.pointer none)) (hd : Nat.blt d n = true) [ht : TU P t (.pointer e)]
  (k : WX q g P ops Q n rest ((d, .bool false) :: L) H) : WX q g P ops Q n (⟨some d, .binOp .neq t x y t', ty, pos, af, none⟩ :: rest) L H :=
 WX.val (fun a ha w _ => run_bin (ha.ev hx) (ha.ev hy) run_eqGuard_ptr (run_neq_ptr (e := e))) hd k
end nils
-- lengths
section lens
variable {x y : Operand} {t : Nat}
theorem run_bi {bi : Builtin} {args : List Operand} {ts : Array TypeId} {a : Act} {vs : List Value} {r : Value} {w w' : World} (hx : args.map a.eval = vs)
  (h : (builtin bi ts ty (args.toArray.map fun | .const _ => true | _ => false) vs.toArray).run P w = .ok (.value r) w') {dst : Option Nat} :
  (execOp a.eval ⟨dst, .call ⟨.builtin bi, args.toArray, ts⟩, ty, pos, af, none⟩).run P w = .ok (.value r) w' := by
 have e : args.toArray.map a.eval = vs.toArray := by rw [← hx]; simp
 simp only [execOp, resolve, e]
 exact h
theorem WX.len {e : Nat} {p : Option Addr} {l c : Nat} (hx : ev L x = some (.slice p l c)) (hd : Nat.blt d n = true) [ht : TU P t (.slice e)] (k : WX q g P ops Q n rest ((d, .int .i64 l) :: L) H) :
  WX q g P ops Q n (⟨some d, .call ⟨.builtin .len, #[x], #[t]⟩, ty, pos, af, none⟩ :: rest) L H :=
 WX.val (fun a ha w _ => run_bi (args := [x]) (by simp [ha.ev hx]; rfl) (by simp [builtin, Builtin.len_, ht.run, goInt])) hd k
theorem WX.lenS {s : ByteArray} (hx : ev L x = some (.string s)) (hd : Nat.blt d n = true) [ht : TU P t .string] (k : WX q g P ops Q n rest ((d, .int .i64 s.size) :: L) H) :
  WX q g P ops Q n (⟨some d, .call ⟨.builtin .len, #[x], #[t]⟩, ty, pos, af, none⟩ :: rest) L H :=
 WX.val (fun a ha w _ => run_bi (args := [x]) (by simp [ha.ev hx]; rfl) (by simp [builtin, Builtin.len_, ht.run, goInt])) hd k
theorem WX.min {i j : Int} {kd : IntKind} {ts : Array TypeId} (hx : ev L x = some (.int kd i)) (hy : ev L y = some (.int kd j)) (hd : Nat.blt d n = true) (k : WX q g P ops Q n rest ((d, .int kd (if j < i then j else i)) :: L) H) :
  WX q g P ops Q n (⟨some d, .call ⟨.builtin .min, #[x, y], ts⟩, ty, pos, af, none⟩ :: rest) L H :=
 WX.val (fun a ha w _ => run_bi (args := [x, y]) (by simp [ha.ev hx, ha.ev hy]; rfl) (by simp [builtin, Builtin.min_, Builtin.min2])) hd k
theorem WX.max {i j : Int} {kd : IntKind} {ts : Array TypeId} (hx : ev L x = some (.int kd i)) (hy : ev L y = some (.int kd j)) (hd : Nat.blt d n = true) (k : WX q g P ops Q n rest ((d, .int kd (if j > i then j else i)) :: L) H) :
  WX q g P ops Q n (⟨some d, .call ⟨.builtin .max, #[x, y], ts⟩, ty, pos, af, none⟩ :: rest) L H :=
 WX.val (fun a ha w _ => run_bi (args := [x, y]) (by simp [ha.ev hx, ha.ev hy]; rfl) (by simp [builtin, Builtin.max_, Builtin.max2])) hd k
end lens
theorem WX.extract {x : Operand} {i : Nat} {vs : List Value} (hx : ev L x = some (.tuple vs.toArray)) (hi : vs[i]? = some v) (hd : Nat.blt d n = true) (k : WX q g P ops Q n rest ((d, v) :: L) H) :
  WX q g P ops Q n (⟨some d, .extract x i, ty, pos, af, none⟩ :: rest) L H :=
 WX.val (fun a ha w _ => by simp [execOp, ha.ev hx, Instr.extract, hi]) hd k
-- conversions
theorem WX.conv {x : Operand} {i : Int} {kd kd' : IntKind} {t t' : Nat} {ds : TypeDesc} (hx : ev L x = some (.int kd i)) (hd : Nat.blt d n = true) [h1 : TU P t ds] [h2 : TU P t' (.int kd')] (r : kd'.wrap i = i)
  (k : WX q g P ops Q n rest ((d, .int kd' i) :: L) H) : WX q g P ops Q n (⟨some d, .convert t t' x, ty, pos, af, none⟩ :: rest) L H :=
 WX.val (fun a ha w _ => by simp [execOp, ha.ev hx, convert, h1.run, h2.run, Conv.intToInt, r]) hd k
theorem WX.convW {x : Operand} {i : Int} {kd kd' : IntKind} {t t' : Nat} {ds : TypeDesc} (hx : ev L x = some (.int kd i)) (hd : Nat.blt d n = true) [h1 : TU P t ds] [h2 : TU P t' (.int kd')]
  (k : WX q g P ops Q n rest ((d, .int kd' (kd'.wrap i)) :: L) H) : WX q g P ops Q n (⟨some d, .convert t t' x, ty, pos, af, none⟩ :: rest) L H :=
 WX.val (fun a ha w _ => by simp [execOp, ha.ev hx, convert, h1.run, h2.run, Conv.intToInt]) hd k
-- addresses
theorem WX.fieldAddr {x : Operand} {t f b i off : Nat} (hx : ev L x = some (.pointer (some ⟨b, i, none⟩))) (hd : Nat.blt d n = true) [h : TF P t f off] (k : WX q g P ops Q n rest ((d, .pointer (some ⟨b, i + off, none⟩)) :: L) H) :
  WX q g P ops Q n (⟨some d, .fieldAddr t x f, ty, pos, af, none⟩ :: rest) L H :=
 WX.val (fun a ha w _ => by
  obtain ⟨fs, fd, h1, h2, h3, k, h4⟩ := h.h
  cases hi : P.info? fd.type with
  | none => simp [hi] at h4
  | some inf =>
   simp [hi] at h4
   simp [execOp, ha.ev hx, Instr.fieldAt, underlying, h1, h2, Instr.sureAddr, fieldPlace, Go.sizeOf, typeInfo, hi, h4, h3, add_none]) hd k
-- loads
theorem WX.loadR {x : Operand} {t : Nat} {p : Addr} (hx : ev L x = some (.pointer (some p))) [ht : TL P t 1 false] (hr : ∀ w, on g H.flatten w → w.cell? p = some v) (hd : Nat.blt d n = true) (k : WX q g P ops Q n rest ((d, v) :: L) H) :
  WX q g P ops Q n (⟨some d, .load t x, ty, pos, af, none⟩ :: rest) L H :=
 WX.val (fun a ha w hw => by simp [execOp, ha.ev hx, Instr.loadAt, Instr.sureAddr, loadVar, ht.isAgg, hr w hw]) hd k
theorem WX.load {x : Operand} {t b i T : Nat} {cs : List Value} {fr : Nat × Nat} {K : Obj → HH} (hx : ev L x = some (.pointer (some ⟨b, i, none⟩))) [ht : TL P t 1 false] [hf : Foc b (.cells (List.toArray cs) T fr) H K]
  (hc : cs[i]? = some v) (hd : Nat.blt d n = true) (k : WX q g P ops Q n rest ((d, v) :: L) H) : WX q g P ops Q n (⟨some d, .load t x, ty, pos, af, none⟩ :: rest) L H :=
 WX.loadR hx (fun w hw => by rw [cell_bk (hf.heap hw), hc]) hd k
theorem WX.loadAR {x : Operand} {t m b i : Nat} {vs : List Value} (hx : ev L x = some (.pointer (some ⟨b, i, none⟩))) [ht : TL P t m true] (hr : ∀ w, on g H.flatten w → ∀ j v, vs[j]? = some v → w.cell? ⟨b, i + j, none⟩ = some v)
  (hl : vs.length = m) (hd : Nat.blt d n = true) (k : WX q g P ops Q n rest ((d, .agg vs.toArray) :: L) H) : WX q g P ops Q n (⟨some d, .load t x, ty, pos, af, none⟩ :: rest) L H :=
 WX.val (fun a ha w hw => by
  subst hl
  have := run_loadCells_list (P := P) w ⟨b, i, none⟩ vs (fun j v e => by rw [add_none]; exact hr w hw j v e)
  simp [execOp, ha.ev hx, Instr.loadAt, Instr.sureAddr, loadVar, ht.isAgg, ht.sizeOf, this]) hd k
theorem WX.loadA {x : Operand} {t m b i T : Nat} {cs vs : List Value} {fr : Nat × Nat} {K : Obj → HH} (hx : ev L x = some (.pointer (some ⟨b, i, none⟩))) [ht : TL P t m true] [hf : Foc b (.cells (List.toArray cs) T fr) H K]
  (hc : (cs.drop i).take m = vs) (hl : vs.length = m) (hd : Nat.blt d n = true) (k : WX q g P ops Q n rest ((d, .agg vs.toArray) :: L) H) : WX q g P ops Q n (⟨some d, .load t x, ty, pos, af, none⟩ :: rest) L H :=
 WX.loadAR hx (fun w hw j v e => by
  rw [cell_bk (hf.heap hw), ← e, ← hc]
  have : j < m := by rw [← hl]; exact (List.getElem?_eq_some_iff.1 e).1
  rw [List.getElem?_take, if_pos this, List.getElem?_drop]) hl hd k
def oneCells (vs : List Value) : Bool := vs.all (·.oneCell')
theorem setCell_heap {w : World} {b i T : Nat} {cs : List Value} {fr : Nat × Nat} {v : Value} (h : w.heap[b]? = some (.cells cs.toArray T fr)) : (w.setCell ⟨b, i, none⟩ v).heap[b]? = some (.cells (cs.set i v).toArray T fr) := by
 simp only [World.setCell, Array.getElem?_modify, if_true, h]
 simp
theorem setCell_amb {w : World} {p : Addr} {v : Value} : Amb w (w.setCell p v) := ⟨rfl, rfl, rfl, by simp [World.setCell]⟩
theorem run_storeCells {b T : Nat} : ∀ (vs : List Value) (i k : Nat) (cs : List Value) (w : World), w.heap[b]? = some (.cells cs.toArray T (0, 0)) → i + k + vs.length ≤ cs.length → oneCells vs = true →
  ∃ w', (storeCells ⟨b, i, none⟩ vs k).run P w = .ok () w' ∧ Amb w w' ∧ w'.heap[b]? = some (.cells (setAt cs (i + k) vs).toArray T (0, 0)) ∧ ∀ j, j ≠ b → w'.heap[j]? = w.heap[j]?
 | [], i, k, cs, w, h, _, _ => ⟨w, by simp [storeCells], Amb.refl w, by simpa [setAt] using h, fun _ _ => rfl⟩
 | v :: vs, i, k, cs, w, h, hl, h1 => by
  simp only [oneCells, all_cons, Bool.and_eq_true] at h1
  simp only [length_cons] at hl
  have h2 := setCell_heap (i := i + k) (v := v) h
  obtain ⟨w', e1, e2, e3, e4⟩ := run_storeCells vs i (k + 1) (cs.set (i + k) v) (w.setCell ⟨b, i + k, none⟩ v) h2 (by simp; omega) h1.2
  refine ⟨w', ?_, setCell_amb.trans e2, ?_, fun j hj => (e4 j hj).trans ?_⟩
  ·have hlt : i + k < cs.length := by omega
   have hr : (store (Addr.add ⟨b, i, none⟩ k) v).run P w = .ok () (w.setCell ⟨b, i + k, none⟩ v) := by
    rw [run_store P w _ v .plain h1.1, add_none, cell_bk h, List.getElem?_eq_getElem hlt, frozen_bk h]; simp
   simp only [storeCells, Sem.run_bind, hr, Result.andThen_ok, e1]
  ·simpa [setAt, Nat.add_assoc] using e3
  ·exact RowKit.Below.heap_setCell _ _ _ _ hj
theorem WX.storeG {x y : Operand} {t m b i T : Nat} {ag : Bool} {cs vs : List Value} {K : Obj → HH} (hx : ev L x = some (.pointer (some ⟨b, i, none⟩))) (hy : ev L y = some v) (hv : v.cells = vs.toArray) [ht : TL P t m ag]
  [hf : Foc b (.cells (List.toArray cs) T (0, 0)) H K] (hl : vs.length = m) (h1 : oneCells vs = true) (hb : Nat.ble (i + vs.length) cs.length = true) (k : WX false g P ops Q n rest L (K (.cells (List.toArray (setAt cs i vs)) T (0, 0)))) :
  WX false g P ops Q n (⟨none, .store t x y, ty, pos, af, none⟩ :: rest) L H :=
 WX.effS (fun a w ha hw => by
  obtain ⟨w', e1, e2, e3, e4⟩ := run_storeCells (P := P) vs i 0 cs w (hf.heap hw) (by have := Nat.le_of_ble_eq_true hb; omega) h1
  refine ⟨w', _, ?_, hf.set hw e2 e3 e4, k⟩
  simp [execOp, ha.ev hx, ha.ev hy, Instr.storeAt, Instr.sureAddr, storeVar, ht.sizeOf, hv, hl, e1])
theorem WX.store {x y : Operand} {t b i T : Nat} {cs : List Value} {K : Obj → HH} (hx : ev L x = some (.pointer (some ⟨b, i, none⟩))) (hy : ev L y = some v) (h1 : v.oneCell' = true) [ht : TL P t 1 false]
  [hf : Foc b (.cells (List.toArray cs) T (0, 0)) H K] (hb : Nat.blt i cs.length = true) (k : WX false g P ops Q n rest L (K (.cells (List.toArray (cs.set i v)) T (0, 0)))) :
  WX false g P ops Q n (⟨none, .store t x y, ty, pos, af, none⟩ :: rest) L H :=
 WX.storeG (vs := [v]) hx hy (by cases v <;> first | rfl | cases h1) rfl (by simp [oneCells, h1]) (by have := Nat.le_of_ble_eq_true hb; exact Nat.ble_eq_true_of_le this) k
-- new blocks
theorem WX.newv {t : Nat} {vs : List Value} (hr : ∀ a, Fr n L a → ∀ w, on g H.flatten w → (execOp a.eval ⟨some d, op, ty, pos, af, none⟩).run P w = .ok (.value (.pointer (some ⟨w.heap.size, 0, none⟩))) (w.alloc (.cells vs.toArray t (0, 0))))
  (hd : Nat.blt d n = true) (k : ∀ b, WX false g P ops Q n rest ((d, .pointer (some ⟨b, 0, none⟩)) :: L) ([(b, .cells (List.toArray vs) t (0, 0))] :: H)) : WX false g P ops Q n (⟨some d, op, ty, pos, af, none⟩ :: rest) L H :=
 WX.eff hd (fun a w ha hw => ⟨_, _, _, hr a ha w hw, by simpa using hw.alloc _, k _⟩)
theorem WX.box {x : Operand} {t : Nat} {vs : List Value} (hx : ev L x = some v) (hv : v.cells = vs.toArray) (hd : Nat.blt d n = true)
  (k : ∀ b, WX false g P ops Q n rest ((d, .pointer (some ⟨b, 0, none⟩)) :: L) ([(b, .cells (List.toArray vs) t (0, 0))] :: H)) : WX false g P ops Q n (⟨some d, .box t x, ty, pos, af, none⟩ :: rest) L H :=
 WX.newv (fun a ha w hw => by simp [execOp, ha.ev hx, Instr.box, newVar, newRow, hv]) hd k
theorem WX.alloc {t : Nat} {vs : List Value} [hz : TZ P t vs] (hd : Nat.blt d n = true)
  (k : ∀ b, WX false g P ops Q n rest ((d, .pointer (some ⟨b, 0, none⟩)) :: L) ([(b, .cells (List.toArray vs) t (0, 0))] :: H)) : WX false g P ops Q n (⟨some d, .alloc t, ty, pos, af, none⟩ :: rest) L H :=
 WX.newv (fun a ha w hw => by
  obtain ⟨z, h1, h2⟩ := hz.run (w := w)
  simp [execOp, Instr.alloc, newVar, newRow, h1, h2]) hd k
def fillL (pl : List (Nat × Nat)) : List Value → List (Nat × Value) → Option (List Value)
 | cs, [] => some cs
 | cs, (i, v) :: r => match pl[i]? with
  | none => none
  | some (off, size) => match Nat.beq v.cells.toList.length size && Nat.ble (off + size) cs.length with
   | true => fillL pl (setAt cs off v.cells.toList) r
   | false => none
theorem foldl_setAt' (off : Nat) : ∀ (vs : List Value) (j : Nat) (cells : Array Value), (vs.zipIdx j).foldl (fun (cs : Array Value) (x : Value × Nat) => cs.setIfInBounds (off + x.2) x.1) cells = (setAt cells.toList (off + j) vs).toArray
 | [], j, cells => by simp [setAt]
 | v :: vs, j, cells => by
  simp only [zipIdx_cons, foldl_cons]
  rw [foldl_setAt' off vs (j + 1)]
  simp [setAt, Nat.add_assoc]
theorem fill_of_fillL (pl : List (Nat × Nat)) : ∀ (ps : List (Nat × Value)) (cs ds : List Value), fillL pl cs ps = some ds → Instr.fill (fun i => pl[i]?) cs.toArray ps = some ds.toArray
 | [], cs, ds, h => by cases h; rfl
 | (i, v) :: r, cs, ds, h => by
  simp only [fillL] at h
  simp only [Instr.fill]
  split at h
  ·cases h
  ·rename_i off size hp
   rw [hp]
   split at h
   ·rename_i hb
    simp only [Bool.and_eq_true] at hb
    have h1 := Nat.eq_of_beq_eq_true hb.1
    have h2 := Nat.le_of_ble_eq_true hb.2
    simp only [Array.length_toList] at h1
    simp only [size_toArray]
    rw [if_neg (by rw [h1]; simp; omega)]
    have e : v.cells.zipIdx.foldl (fun (cs : Array Value) (x : Value × Nat) => cs.setIfInBounds (off + x.2) x.1) cs.toArray = (setAt cs off v.cells.toList).toArray := by
     rw [← Array.foldl_toList, Array.toList_zipIdx, foldl_setAt']
     rfl
    rw [e]
    exact fill_of_fillL pl r _ ds h
   ·cases h
theorem WX.build {t : Nat} {parts : List (Nat × Operand)} {zs cs : List Value} {pl : List (Nat × Nat)} {vs : List Value} [hz : TZ P t zs] [hp : TP P t pl] (hx : evs L (parts.map (·.2)) = some vs)
  (hf' : fillL pl zs ((parts.map (·.1)).zip vs) = some cs) (hd : Nat.blt d n = true)
  (k : WX q g P ops Q n rest ((d, .agg cs.toArray) :: L) H) : WX q g P ops Q n (⟨some d, .build t parts.toArray, ty, pos, af, none⟩ :: rest) L H :=
 have hf := fill_of_fillL pl _ _ _ hf'
 WX.val (fun a ha w hw => by
  obtain ⟨z, h1, h2⟩ := hz.run (w := w)
  obtain ⟨fs, h3, h4⟩ := hp.h
  have e := ha.evs hx
  have e2 : parts.map (fun x => (x.1, a.eval x.2)) = (parts.map (·.1)).zip vs := by
   rw [← e, map_map, zip_map', Function.comp_def]
  obtain ⟨i, z', g1, g2, g3⟩ := hz.h
  have hb : P.built t ((parts.map (·.1)).zip vs) = some cs.toArray := by
   simp only [Program.built, g1, g2, h3]
   rw [h4]
   simp only []
   rw [g3, show (fun x => pl.toArray[x]?) = fun i => pl[i]? from funext fun i => by simp]
   exact hf
  have := run_build (P := P) w t (parts.toArray.map fun x => (x.1, a.eval x.2)) cs.toArray (by simpa [e2] using hb)
  simp only [execOp, Sem.run_bind]
  rw [this]; rfl) hd k
-- calls
theorem callFunc_run {f : FuncId} (h : Enters P f) (vs : Array Value) (w : World) : (callFunc f vs).run P w = .ok (.enter f vs) w := by
 obtain ⟨fn, h1, h2, h3⟩ := h.e
 simp only [callFunc, Sem.run_bind, run_program, Result.andThen_ok, h1, h2, h3, Bool.false_eq_true, if_false]
 rfl
theorem exec_call {f : FuncId} {args : List Operand} {ts : Array TypeId} {a : Act} {vs : List Value} {w : World} {dst : Option Nat} (hn : Enters P f) (hx : args.map a.eval = vs) :
  (execOp a.eval ⟨dst, .call ⟨.value (.func f), args.toArray, ts⟩, ty, pos, af, none⟩).run P w = .ok (.enter f vs.toArray) w := by
 have e : args.toArray.map a.eval = vs.toArray := by rw [← hx]; simp
 have e0 : a.eval (.func f) = .func (.func f) #[] #[] := rfl
 simp only [execOp, resolve, e, e0]
 simp [Deferred.ofValue, invoke, callFunc_run hn]
theorem WX.call {f : FuncId} {args : List Operand} {ts : Array TypeId} {vs : List Value} {pre Hr : HH} {post : Value → HH → Prop} (hx : evs L args = some vs) [hn : Enters P f] (hc : Ct P f vs pre post) [pk : Picks pre H Hr]
  (hd : Nat.blt d n = true) (k : ∀ v H', post v H' → WX false g P ops Q n rest ((d, v) :: L) (H' ++ Hr)) : WX false g P ops Q n (⟨some d, .call ⟨.value (.func f), args.toArray, ts⟩, ty, pos, af, none⟩ :: rest) L H := by
 refine .mk fun a w ha hw => ?_
 have hd' : d < n := Nat.le_of_ble_eq_true hd
 refine wpList_plain rfl fun K hK => ?_
 unfold Oper.wp
 rw [exec_call hn (ha.evs hx)]
 refine (hc.calls g Hr.flatten w (hw.perm (by simpa using pk.p))).mono fun e w' ⟨v, H', he, hp, ho⟩ => ?_
 subst he
 exact hK _ _ (k v H' hp _ _ (ha.put hd' v) (by simpa using ho))
theorem WX.callQ {f : FuncId} {args : List Operand} {ts : Array TypeId} {vs : List Value} {pre Hr : HH} (hx : evs L args = some vs) [hn : Enters P f] (hc : Ct P f vs pre (fun r H' => r = v ∧ H' = pre)) [pk : Picks pre H Hr]
  (hd : Nat.blt d n = true) (k : WX q g P ops Q n rest ((d, v) :: L) H) : WX q g P ops Q n (⟨some d, .call ⟨.value (.func f), args.toArray, ts⟩, ty, pos, af, none⟩ :: rest) L H := by
 have key : ∀ w, on g H.flatten w → Calls P f vs.toArray w (fun e w' => e = .returned v ∧ on g H.flatten w') := fun w hw =>
  (hc.calls g Hr.flatten w (hw.perm (by simpa using pk.p))).mono fun e w' ⟨u, H', he, ⟨h1, h2⟩, ho⟩ => by
   subst h1; subst h2
   exact ⟨he, ho.perm (by simpa using pk.p.symm)⟩
 refine .mk fun a w ha hw => ?_
 have hd' : d < n := Nat.le_of_ble_eq_true hd
 have hk := fun w' hw' => k (a.put (some d) v) w' (ha.put hd' v) hw'
 cases q
 ·refine wpList_plain rfl fun K hK => ?_
  unfold Oper.wp
  rw [exec_call hn (ha.evs hx)]
  refine (key w hw).mono fun e w' ⟨he, ho⟩ => ?_
  subst he
  exact hK _ _ (hk w' ho)
 ·refine wpQuiet_step fun K hK => ?_
  simp only [Region.wanted, if_true]
  refine ⟨v, fun w' hw' => ?_, hK _ (hk w hw)⟩
  unfold Oper.quietAt
  rw [exec_call hn (ha.evs hx)]
  exact ⟨rfl, key w' hw'⟩
-- results
theorem D.ret0 {fn : Func} {R : Ending → World → Prop} (hr : fn.results = #[]) (h : ∀ w, on g H.flatten w → R (.returned (.tuple #[])) w) : D g (bodyPost P fn R) .ret n L H :=
 .mk fun a w ha hw => ⟨ha.defers, _, results_none hr _ _ _, h w hw⟩
theorem D.end0 {fn : Func} {R : Ending → World → Prop} (hr : fn.results = #[]) (h : ∀ w, on g H.flatten w → R (.returned (.tuple #[])) w) : D g (bodyPost P fn R) .normal n L H :=
 .mk fun a w ha hw => ⟨ha.defers, _, results_none hr _ _ _, h w hw⟩
theorem Fr.getD {a : Act} {t : Nat} {v : Value} (ha : Fr n L a) (h : lk L t = some v) : a.tmps.getD t undef = v := by
 simp [Array.getD_eq_getD_getElem?, ha.get _ _ h]
theorem D.ret1 {fn : Func} {R : Ending → World → Prop} {t : Nat} (hr : fn.results = #[.tmp t]) (hl : lk L t = some v) (h : ∀ w, on g H.flatten w → R (.returned v) w) : D g (bodyPost P fn R) .ret n L H :=
 .mk fun a w ha hw => ⟨ha.defers, _, results_tmp hr _ _ _, by rw [ha.getD hl]; exact h w hw⟩
theorem D.ret2 {fn : Func} {R : Ending → World → Prop} {t u : Nat} {v' : Value} (hr : fn.results = #[.tmp t, .tmp u]) (hl : lk L t = some v) (hl' : lk L u = some v') (h : ∀ w, on g H.flatten w → R (.returned (.tuple #[v, v'])) w) :
  D g (bodyPost P fn R) .ret n L H :=
 .mk fun a w ha hw => ⟨ha.defers, _, results_tmp2 hr _ _ _, by rw [ha.getD hl, ha.getD hl']; exact h w hw⟩
theorem D.fin0 {fn : Func} {post : Value → HH → Prop} {R : Hp} (H' r : HH) (hr : fn.results = #[]) (hp : post (.tuple #[]) H') [k : Picks (H' ++ [R]) H r] : D g (bodyPost P fn (cpost g post R)) .ret n L H :=
 D.ret0 hr fun w hw => ⟨_, H', rfl, hp, (Hsub.of_picks k).on hw⟩
theorem D.finE {fn : Func} {post : Value → HH → Prop} {R : Hp} (H' r : HH) (hr : fn.results = #[]) (hp : post (.tuple #[]) H') [k : Picks (H' ++ [R]) H r] : D g (bodyPost P fn (cpost g post R)) .normal n L H :=
 D.end0 hr fun w hw => ⟨_, H', rfl, hp, (Hsub.of_picks k).on hw⟩
theorem D.fin1 {fn : Func} {post : Value → HH → Prop} {R : Hp} {t : Nat} (H' r : HH) (hr : fn.results = #[.tmp t]) (hl : lk L t = some v) (hp : post v H') [k : Picks (H' ++ [R]) H r] : D g (bodyPost P fn (cpost g post R)) .ret n L H :=
 D.ret1 hr hl fun w hw => ⟨_, H', rfl, hp, (Hsub.of_picks k).on hw⟩
theorem D.fin2 {fn : Func} {post : Value → HH → Prop} {R : Hp} {t u : Nat} {v' : Value} (H' r : HH) (hr : fn.results = #[.tmp t, .tmp u]) (hl : lk L t = some v) (hl' : lk L u = some v') (hp : post (.tuple #[v, v']) H') [k : Picks (H' ++ [R]) H r] :
  D g (bodyPost P fn (cpost g post R)) .ret n L H :=
 D.ret2 hr hl hl' fun w hw => ⟨_, H', rfl, hp, (Hsub.of_picks k).on hw⟩
end
class Enc (α : Type) where
 sz : Nat
 enc : α → List Value
 len : ∀ x, (enc x).length = sz
 one : ∀ x, oneCells (enc x) = true
 pos : 0 < sz
instance : Enc Int := ⟨1, fun n => [.int .i64 n], fun _ => rfl, fun _ => rfl, by decide⟩
instance : Enc UInt8 := ⟨1, fun n => [.int .u8 n.toNat], fun _ => rfl, fun _ => rfl, by decide⟩
instance : Enc Bool := ⟨1, fun b => [.bool b], fun _ => rfl, fun _ => rfl, by decide⟩
def Free (fr : Nat × Nat) (n : Nat) : Prop := fr.1 = fr.2 ∨ n ≤ fr.1
theorem Free.zero (n : Nat) : Free (0, 0) n := .inl rfl
section
variable {α : Type} [E : Enc α]
def encs (xs : List α) : List Value := xs.flatMap Enc.enc
theorem encs_len (xs : List α) : (encs xs).length = xs.length * Enc.sz α := by
 unfold encs
 induction xs with
 | nil => simp
 | cons x r ih => simp [ih, Enc.len, Nat.succ_mul, Nat.add_comm]
theorem encs_append (xs ys : List α) : encs (xs ++ ys) = encs xs ++ encs ys := by simp [encs]
theorem encs_one (xs : List α) : oneCells (encs xs) = true := by
 unfold encs oneCells
 induction xs with
 | nil => rfl
 | cons x r ih => simp only [flatMap_cons, all_append, ih, Bool.and_true]; exact Enc.one x
theorem encs_split {xs : List α} {k : Nat} {y : α} (hk : xs[k]? = some y) : encs xs = encs (xs.take k) ++ Enc.enc y ++ encs (xs.drop (k + 1)) := by
 have hlt := (List.getElem?_eq_some_iff.1 hk).1
 have hy := (List.getElem?_eq_some_iff.1 hk).2
 have h1 : xs = xs.take k ++ (y :: xs.drop (k + 1)) := by
  rw [← hy, ← drop_eq_getElem_cons hlt, take_append_drop]
 conv => lhs; rw [h1]
 simp [encs, append_assoc]
theorem encs_get {xs : List α} {k off : Nat} {y : α} (hk : xs[k]? = some y) (ho : off < Enc.sz α) (sp : List Value) : (encs xs ++ sp)[k * Enc.sz α + off]? = (Enc.enc y)[off]? := by
 have hlt := (List.getElem?_eq_some_iff.1 hk).1
 have hl : (encs (xs.take k)).length = k * Enc.sz α := by rw [encs_len, length_take, Nat.min_eq_left (by omega)]
 rw [encs_split hk, append_assoc, append_assoc, List.getElem?_append_right (by omega), hl, Nat.add_sub_cancel_left, List.getElem?_append_left (by rw [Enc.len]; exact ho)]
def IsSl (T : Nat) (xs : List α) (v : Value) (h : Hp) : Prop :=
 (v = .slice none 0 0 ∧ xs = [] ∧ h = []) ∨
 ∃ b cap sp fr, v = .slice (some ⟨b, 0, none⟩) xs.length cap ∧ h = [(b, .cells (List.toArray (encs xs ++ sp)) T fr)] ∧ xs.length ≤ cap ∧ sp.length = (cap - xs.length) * Enc.sz α ∧ Free fr (cap * Enc.sz α)
theorem IsSl.nil (T : Nat) : IsSl T ([] : List α) (.slice none 0 0) [] := .inl ⟨rfl, rfl, rfl⟩
theorem IsSl.len {T : Nat} {xs : List α} {v : Value} {h : Hp} (hs : IsSl T xs v h) : ∃ p c, v = .slice p xs.length c := by
 rcases hs with ⟨rfl, rfl, _⟩ | ⟨b, cap, sp, fr, rfl, _⟩
 ·exact ⟨_, _, rfl⟩
 ·exact ⟨_, _, rfl⟩
theorem IsSl.ne {T : Nat} {xs : List α} {v : Value} {h : Hp} (hs : IsSl T xs v h) (hne : 0 < xs.length) :
  ∃ b cap sp fr, v = .slice (some ⟨b, 0, none⟩) xs.length cap ∧ h = [(b, .cells (List.toArray (encs xs ++ sp)) T fr)] ∧ xs.length ≤ cap ∧ sp.length = (cap - xs.length) * Enc.sz α ∧ Free fr (cap * Enc.sz α) := by
 rcases hs with ⟨rfl, rfl, _⟩ | h
 ·simp at hne
 ·exact h
theorem IsSl.take {T : Nat} {xs : List α} {v : Value} {h : Hp} (hs : IsSl T xs v h) (n : Nat) (hn : n ≤ xs.length) :
  ∃ p l c, v = .slice p l c ∧ IsSl T (xs.take n) (.slice p n c) h := by
 rcases hs with ⟨rfl, rfl, rfl⟩ | ⟨b, cap, sp, fr, rfl, rfl, h1, h2, h3⟩
 ·obtain rfl : n = 0 := by simpa using hn
  exact ⟨_, _, _, rfl, .inl ⟨rfl, by simp, rfl⟩⟩
 ·refine ⟨_, _, _, rfl, .inr ⟨b, cap, encs (xs.drop n) ++ sp, fr, by rw [length_take, Nat.min_eq_left hn], ?_, ?_, ?_, h3⟩⟩
  ·rw [← append_assoc, ← encs_append, take_append_drop]
  ·rw [length_take]; omega
  ·rw [length_append, encs_len, h2, length_drop, length_take, Nat.min_eq_left hn, ← Nat.add_mul]
   congr 1; omega
theorem IsSl.of_block (T b : Nat) (xs : List α) : IsSl T xs (.slice (some ⟨b, 0, none⟩) xs.length xs.length) [(b, .cells (List.toArray (encs xs)) T (0, 0))] :=
 .inr ⟨b, xs.length, [], (0, 0), rfl, by simp, Nat.le_refl _, by simp, Free.zero _⟩
def eptr (v : Value) (k m off : Nat) : Value := match v with
 | .slice (some a) _ _ => .pointer (some (a.add (k * m + off)))
 | _ => undef
theorem eptr_some (b l c k m off : Nat) : eptr (.slice (some ⟨b, 0, none⟩) l c) k m off = .pointer (some ⟨b, k * m + off, none⟩) := by
 simp [eptr, add_none]
theorem eptr_at (b o l c k m off : Nat) : eptr (.slice (some ⟨b, o, none⟩) l c) k m off = .pointer (some ⟨b, o + (k * m + off), none⟩) := by
 simp [eptr, add_none]
def Rs (xs : List α) (v : Value) (h : Hp) : Prop :=
 ∃ a c, v = .slice a xs.length c ∧ xs.length ≤ c ∧ ∀ k y, xs[k]? = some y → ∃ b off, a = some ⟨b, off, none⟩ ∧ ∀ j u, (Enc.enc y)[j]? = some u → ∀ g w, on g h w → w.cell? ⟨b, off + (k * Enc.sz α + j), none⟩ = some u
theorem IsSl.rs {T : Nat} {xs : List α} {v : Value} {h : Hp} (hs : IsSl T xs v h) : Rs xs v h := by
 rcases hs with ⟨rfl, rfl, rfl⟩ | ⟨b, cap, sp, fr, rfl, rfl, h1, h2, h3⟩
 ·exact ⟨_, _, rfl, Nat.le_refl _, fun k y hk => by simp at hk⟩
 ·refine ⟨_, _, rfl, h1, fun k y hk => ⟨b, 0, rfl, fun j u hu g w ho => ?_⟩⟩
  have hj : j < Enc.sz α := by have := (List.getElem?_eq_some_iff.1 hu).1; rwa [Enc.len] at this
  rw [Nat.zero_add, cell_bk (ho.2.2 b _ (mem_cons_self)), encs_get hk hj, hu]
theorem Rs.mono {xs : List α} {v : Value} {h h' : Hp} (hs : Rs xs v h) (k : ∀ g w, on g h' w → on g h w) : Rs xs v h' := by
 obtain ⟨a, c, e, le, f⟩ := hs
 refine ⟨a, c, e, le, fun i y hi => ?_⟩
 obtain ⟨b, off, e1, e2⟩ := f i y hi
 exact ⟨b, off, e1, fun j u hu g w ho => e2 j u hu g w (k g w ho)⟩
theorem Rs.len {xs : List α} {v : Value} {h : Hp} (hs : Rs xs v h) : ∃ p c, v = .slice p xs.length c := by
 obtain ⟨a, c, e, _⟩ := hs; exact ⟨a, c, e⟩
def slTo (v : Value) (m : Nat) : Value := match v with
 | .slice p _ c => .slice p m c
 | _ => v
theorem Rs.take {xs : List α} {v : Value} {h : Hp} (hs : Rs xs v h) {m : Nat} (hm : m ≤ xs.length) : Rs (xs.take m) (slTo v m) h := by
 obtain ⟨a, c, rfl, le, f⟩ := hs
 refine ⟨a, c, by simp [slTo, Nat.min_eq_left hm], by rw [length_take]; omega, fun k y hk => ?_⟩
 have hlt := (List.getElem?_eq_some_iff.1 hk).1
 rw [length_take] at hlt
 exact f k y (by rwa [List.getElem?_take, if_pos (by omega)] at hk)
theorem IsSl.to {T : Nat} {xs : List α} {v : Value} {h : Hp} (hs : IsSl T xs v h) {m : Nat} (hm : m ≤ xs.length) : IsSl T (xs.take m) (slTo v m) h := by
 obtain ⟨p, l, c, rfl, h2⟩ := hs.take m hm
 exact h2
end
theorem nextcap_le (need cap : Nat) (h : cap < need) : Builtin.nextslicecap need cap ≤ 2 * need + 256 := by
 have key : ∀ r c, c ≤ 2 * need + 256 → Builtin.growBy need r c ≤ 2 * need + 256 := by
  intro r
  induction r with
  | zero => intro c hc; exact hc
  | succ r ih =>
   intro c hc
   unfold Builtin.growBy
   split
   ·exact hc
   ·exact ih _ (by omega)
 unfold Builtin.nextslicecap
 split
 ·omega
 ·split
  ·omega
  ·exact key 4 cap (by omega)
class TB (P : Program) (t : Nat) (k : outParam Nat) : Prop where
 s : (P.info? t).map (·.bytes) = some k
section
variable {g : World} {P : Program} {ops : Array Oper} {Q : Exit → Act → World → Prop} {n : Nat} {os rest : List Oper} {L L' : Fm} {H H' : HH} {q : Bool}
variable {d : Nat} {op : Op} {ty : TypeId} {pos : String} {af : Array Edge} {v : Value}
variable {α : Type} [E : Enc α] {xs : List α} {y : α} {T k : Nat} {h : Hp}
theorem Swp.onx {x : Hp} {H : HH} {K : Hp → HH} {w : World} (s : Swp x H K) (h : on g H.flatten w) : Sl.on g x w := by
 obtain ⟨l, r, e, _⟩ := s.p
 rw [e, append_assoc] at h
 exact h.right.left
theorem Swp.set {b T : Nat} {o o' : Obj} {H : HH} {K : Hp → HH} {w w' : World} (s : Swp [(b, o)] H K) (h : Sl.on g H.flatten w) (a : Amb w w') (e : w'.heap[b]? = some o')
  (f : ∀ k, k ≠ b → w'.heap[k]? = w.heap[k]?) : Sl.on g (K [(b, o')]).flatten w' := by
 obtain ⟨l, r, e1, e2⟩ := s.p
 rw [e1] at h
 rw [e2]
 have : Sl.on g (l ++ (b, o) :: r) w := by simpa using h
 simpa using this.set a e f
theorem WX.lenSl {x : Operand} {t e : Nat} (hx : ev L x = some v) (hs : Rs xs v h) (hd : Nat.blt d n = true) [ht : TU P t (.slice e)] (kk : WX q g P ops Q n rest ((d, .int .i64 xs.length) :: L) H) :
  WX q g P ops Q n (⟨some d, .call ⟨.builtin .len, #[x], #[t]⟩, ty, pos, af, none⟩ :: rest) L H := by
 obtain ⟨p, c, rfl⟩ := hs.len
 exact WX.len hx hd kk
theorem WX.idx {x i : Operand} {t e m : Nat} {ag : Bool} {kd : IntKind} (hx : ev L x = some v) (hi : ev L i = some (.int kd (k : Int))) (hs : Rs xs v h) (hk : xs[k]? = some y) [ht : TU P t (.slice e)] [hl : TL P e m ag]
  (hd : Nat.blt d n = true) (kk : WX q g P ops Q n rest ((d, eptr v k m 0) :: L) H) : WX q g P ops Q n (⟨some d, .indexAddr t x i, ty, pos, af, none⟩ :: rest) L H := by
 have hlt := (List.getElem?_eq_some_iff.1 hk).1
 obtain ⟨a, c, rfl, _, f⟩ := hs
 obtain ⟨b, off, rfl, _⟩ := f k y hk
 refine WX.val (fun a ha w hw => ?_) hd kk
 have h1 : (k : Int) < (xs.length : Int) := by omega
 simp [execOp, ha.ev hx, ha.ev hi, Instr.indexAt, asIntOf, ht.run, hl.sizeOf, hlt, eptr, add_none]
theorem WX.idxI {x i : Operand} {t e m : Nat} {j : Int} {ag : Bool} {kd : IntKind} (hx : ev L x = some v) (hi : ev L i = some (.int kd j)) (hs : Rs xs v h) (h0 : 0 ≤ j) (hk : xs[j.toNat]? = some y) [ht : TU P t (.slice e)] [hl : TL P e m ag]
  (hd : Nat.blt d n = true) (kk : WX q g P ops Q n rest ((d, eptr v j.toNat m 0) :: L) H) : WX q g P ops Q n (⟨some d, .indexAddr t x i, ty, pos, af, none⟩ :: rest) L H := by
 have e : ((j.toNat : Nat) : Int) = j := Int.toNat_of_nonneg h0
 exact WX.idx hx (by rw [hi, e]) hs hk hd kk
theorem WX.slTo {x i : Operand} {t e m k : Nat} {ag : Bool} {kd : IntKind} (hx : ev L x = some v) (hi : ev L i = some (.int kd (k : Int))) (hs : Rs xs v h) (hk : k ≤ xs.length) [ht : TU P t (.slice e)] [hl : TL P e m ag]
  (hd : Nat.blt d n = true) (kk : WX q g P ops Q n rest ((d, Sl.slTo v k) :: L) H) : WX q g P ops Q n (⟨some d, .slice t x none (some i) none, ty, pos, af, none⟩ :: rest) L H := by
 obtain ⟨a, c, rfl, le, f⟩ := hs
 refine WX.val (fun a' ha w hw => ?_) hd kk
 have h1 : (k : Int) ≤ (c : Int) := by omega
 have h2 : a.map (fun x => x.add 0) = a := by cases a <;> simp [Addr.add]
 simp [execOp, ha.ev hx, ha.ev hi, Instr.sliceAt, Instr.slice, Instr.sliceBounds, Instr.sliceBound, asIntOf, ht.run, hl.sizeOf, h1, Sl.slTo, h2]
 intro hlt; omega
theorem WX.fieldE {x : Operand} {t f m off off' k : Nat} (hx : ev L x = some (eptr v k m off)) (hs : Rs xs v h) (hk : xs[k]? = some y) (hd : Nat.blt d n = true) [hf : TF P t f off'] (kk : WX q g P ops Q n rest ((d, eptr v k m (off + off')) :: L) H) :
  WX q g P ops Q n (⟨some d, .fieldAddr t x f, ty, pos, af, none⟩ :: rest) L H := by
 obtain ⟨a, c, rfl, _, f⟩ := hs
 obtain ⟨b, o, rfl, _⟩ := f k y hk
 rw [eptr_at] at hx kk
 exact WX.fieldAddr hx hd (by simpa [Nat.add_assoc] using kk)
theorem WX.loadE {x : Operand} {t off ms : Nat} {u : Value} {K : Hp → HH} (hx : ev L x = some (eptr v k ms off)) (hs : Rs xs v h) (hk : xs[k]? = some y) (hms : ms = Enc.sz α) [ht : TL P t 1 false] [hw : Swp h H K] (ho : (Enc.enc y)[off]? = some u)
  (hd : Nat.blt d n = true) (kk : WX q g P ops Q n rest ((d, u) :: L) H) : WX q g P ops Q n (⟨some d, .load t x, ty, pos, af, none⟩ :: rest) L H := by
 subst hms
 obtain ⟨a, c, rfl, _, f⟩ := hs
 obtain ⟨b, o, rfl, f2⟩ := f k y hk
 rw [eptr_at] at hx
 exact WX.loadR hx (fun w ho1 => f2 off u ho g w (hw.onx ho1)) hd kk
theorem WX.loadEA {x : Operand} {t off m ms : Nat} {us : List Value} {K : Hp → HH} (hx : ev L x = some (eptr v k ms off)) (hs : Rs xs v h) (hk : xs[k]? = some y) (hms : ms = Enc.sz α) [ht : TL P t m true] [hw : Swp h H K] (ho : ((Enc.enc y).drop off).take m = us) (hl : us.length = m)
  (hd : Nat.blt d n = true) (kk : WX q g P ops Q n rest ((d, .agg us.toArray) :: L) H) : WX q g P ops Q n (⟨some d, .load t x, ty, pos, af, none⟩ :: rest) L H := by
 subst hms
 obtain ⟨a, c, rfl, _, f⟩ := hs
 obtain ⟨b, o, rfl, f2⟩ := f k y hk
 rw [eptr_at] at hx
 refine WX.loadAR hx (fun w ho1 j u hu => ?_) hl hd kk
 have hj : j < m := by rw [← hl]; exact (List.getElem?_eq_some_iff.1 hu).1
 have hu' : (Enc.enc y)[off + j]? = some u := by rw [← hu, ← ho, List.getElem?_take, if_pos hj, List.getElem?_drop]
 have := f2 (off + j) u hu' g w (hw.onx ho1)
 simpa [Nat.add_assoc] using this
theorem setAt_append_left (l r : List Value) : ∀ (vs : List Value) (i : Nat), i + vs.length ≤ l.length → setAt (l ++ r) i vs = setAt l i vs ++ r
 | [], i, _ => rfl
 | v :: vs, i, hl => by
  simp only [length_cons] at hl
  simp only [setAt]
  rw [set_append_left _ _ (by omega), setAt_append_left _ r vs (i + 1) (by simp; omega)]
theorem setAt_append_right (l r : List Value) : ∀ (vs : List Value) (i : Nat), setAt (l ++ r) (l.length + i) vs = l ++ setAt r i vs
 | [], i => rfl
 | v :: vs, i => by
  simp only [setAt]
  rw [set_append_right _ _ (by omega), Nat.add_sub_cancel_left, Nat.add_assoc, setAt_append_right l _ vs (i + 1)]
theorem setAt_len : ∀ (vs : List Value) (l : List Value) (i : Nat), (setAt l i vs).length = l.length
 | [], l, i => rfl
 | v :: vs, l, i => by simp only [setAt]; rw [setAt_len vs]; simp
theorem setAt_all : ∀ (vs r : List Value) (i : Nat) (l : List Value), l.length = i → r.length = vs.length → setAt (l ++ r) i vs = l ++ vs
 | [], r, i, l, _, h => by have : r = [] := length_eq_zero_iff.1 h; subst this; rfl
 | v :: vs, [], i, l, _, h => by simp at h
 | v :: vs, x :: r, i, l, h1, h2 => by
  simp only [setAt]
  rw [set_append_right _ _ (by omega)]
  simp only [show i - l.length = 0 by omega, set_cons_zero]
  have := setAt_all vs r (i + 1) (l ++ [v]) (by simp; omega) (by simpa using h2)
  simpa using this
theorem frozen_free {w : World} {b i T : Nat} {cs : List Value} {fr : Nat × Nat} (h : w.heap[b]? = some (.cells cs.toArray T fr)) (hf : Free fr cs.length) (hi : i < cs.length) : w.frozen? ⟨b, i, none⟩ = false := by
 simp only [World.frozen?, h]
 obtain ⟨lo, hi'⟩ := fr
 rcases hf with hf | hf
 ·simp only at hf
  simp; omega
 ·simp only at hf
  simp; omega
theorem run_storeCellsF {b T : Nat} {fr : Nat × Nat} : ∀ (vs : List Value) (i k : Nat) (cs : List Value) (w : World), w.heap[b]? = some (.cells cs.toArray T fr) → Free fr cs.length → i + k + vs.length ≤ cs.length → oneCells vs = true →
  ∃ w', (storeCells ⟨b, i, none⟩ vs k).run P w = .ok () w' ∧ Amb w w' ∧ w'.heap[b]? = some (.cells (setAt cs (i + k) vs).toArray T fr) ∧ ∀ j, j ≠ b → w'.heap[j]? = w.heap[j]?
 | [], i, k, cs, w, h, _, _, _ => ⟨w, by simp [storeCells], Amb.refl w, by simpa [setAt] using h, fun _ _ => rfl⟩
 | v :: vs, i, k, cs, w, h, hf, hl, h1 => by
  simp only [oneCells, all_cons, Bool.and_eq_true] at h1
  simp only [length_cons] at hl
  have h2 := setCell_heap (i := i + k) (v := v) h
  obtain ⟨w', e1, e2, e3, e4⟩ := run_storeCellsF vs i (k + 1) (cs.set (i + k) v) (w.setCell ⟨b, i + k, none⟩ v) h2 (by simpa using hf) (by simp; omega) h1.2
  refine ⟨w', ?_, setCell_amb.trans e2, ?_, fun j hj => (e4 j hj).trans ?_⟩
  ·have hlt : i + k < cs.length := by omega
   have hr : (store (Addr.add ⟨b, i, none⟩ k) v).run P w = .ok () (w.setCell ⟨b, i + k, none⟩ v) := by
    rw [run_store P w _ v .plain h1.1, add_none, cell_bk h, List.getElem?_eq_getElem hlt, frozen_free h hf hlt]; simp
   simp only [storeCells, Sem.run_bind, hr, Result.andThen_ok, e1]
  ·simpa [setAt, Nat.add_assoc] using e3
  ·exact RowKit.Below.heap_setCell _ _ _ _ hj
theorem IsSl.set {b cap : Nat} {sp : List Value} {fr : Nat × Nat} {y' : α} (hk : xs[k]? = some y) (h1 : xs.length ≤ cap) (h2 : sp.length = (cap - xs.length) * Enc.sz α) (h3 : Free fr (cap * Enc.sz α)) {off : Nat} {vs : List Value} (hy : setAt (Enc.enc y) off vs = Enc.enc y')
  (hle : off + vs.length ≤ Enc.sz α) :
  IsSl T (xs.set k y') (.slice (some ⟨b, 0, none⟩) xs.length cap) [(b, .cells (List.toArray (setAt (encs xs ++ sp) (k * Enc.sz α + off) vs)) T fr)] := by
 have hlt := (List.getElem?_eq_some_iff.1 hk).1
 refine .inr ⟨b, cap, sp, fr, by simp, ?_, by simpa using h1, by simpa using h2, h3⟩
 congr 4
 have hl : (encs (xs.take k)).length = k * Enc.sz α := by rw [encs_len, length_take, Nat.min_eq_left (by omega)]
 have hk' : (xs.set k y')[k]? = some y' := by simp [hlt]
 rw [encs_split hk, encs_split hk', ← hl, append_assoc, append_assoc, setAt_append_right, setAt_append_left _ _ _ _ (by rw [Enc.len]; exact hle), hy]
 simp [append_assoc, take_set_of_le, drop_set_of_lt]
theorem WX.storeE {x z : Operand} {t m off ms : Nat} {ag : Bool} {y' : α} {vs : List Value} {u : Value} {K : Hp → HH} (hx : ev L x = some (eptr v k ms off)) (hz : ev L z = some u) (hv : u.cells = vs.toArray) (hs : IsSl T xs v h) (hk : xs[k]? = some y) (hms : ms = Enc.sz α)
  [ht : TL P t m ag] [hw : Swp h H K] (hl : vs.length = m) (h1 : oneCells vs = true) (hy : setAt (Enc.enc y) off vs = Enc.enc y') (hle' : Nat.ble (off + vs.length) (Enc.sz α) = true)
  (kk : ∀ h', IsSl T (xs.set k y') v h' → WX false g P ops Q n rest L (K h')) : WX false g P ops Q n (⟨none, .store t x z, ty, pos, af, none⟩ :: rest) L H := by
 have hle := Nat.le_of_ble_eq_true hle'
 subst hms
 have hlt := (List.getElem?_eq_some_iff.1 hk).1
 obtain ⟨b, cap, sp, fr, rfl, rfl, g1, g2, g3⟩ := hs.ne (by omega)
 rw [eptr_some] at hx
 have hlen : (encs xs ++ sp).length = cap * Enc.sz α := by rw [length_append, encs_len, g2, ← Nat.add_mul]; congr 1; omega
 have hke : k * Enc.sz α + Enc.sz α ≤ cap * Enc.sz α := by rw [← Nat.succ_mul]; exact Nat.mul_le_mul_right _ (by omega)
 refine WX.effS (fun a w ha ho => ?_)
 have hh := (hw.onx ho).2.2 b _ (mem_cons_self)
 obtain ⟨w', e1, e2, e3, e4⟩ := run_storeCellsF (P := P) vs (k * Enc.sz α + off) 0 _ w hh (by rw [hlen]; exact g3) (by omega) h1
 refine ⟨w', _, ?_, hw.set (T := T) ho e2 e3 e4, kk _ (IsSl.set hk g1 g2 g3 hy hle)⟩
 simp [execOp, ha.ev hx, ha.ev hz, Instr.storeAt, Instr.sureAddr, storeVar, ht.sizeOf, hv, hl, e1]
end
structure Src (P : Program) (sz : Nat) (v : Value) (n : Nat) (cells : List Value) (w : World) : Prop where
 len : (Builtin.lenOf v).run P w = .ok n w
 cells : (Builtin.firstCells sz n v).run P w = .ok cells.toArray w
section
variable {α : Type} [E : Enc α] {P : Program} {g : World}
theorem IsSl.src {T : Nat} {xs : List α} {v : Value} {h : Hp} {w : World} (hs : IsSl T xs v h) (ho : ∀ b o, (b, o) ∈ h → w.heap[b]? = some o) : Src P (Enc.sz α) v xs.length (encs xs) w := by
 rcases hs with ⟨rfl, rfl, rfl⟩ | ⟨b, cap, sp, fr, rfl, rfl, h1, h2, h3⟩
 ·exact ⟨by simp [Builtin.lenOf], by simp [Builtin.firstCells, encs]⟩
 ·refine ⟨by simp [Builtin.lenOf], ?_⟩
  have hh := ho b _ (mem_cons_self)
  have := run_loadCells_list (P := P) w ⟨b, 0, none⟩ (encs xs) (fun j u hu => by
   rw [add_none, Nat.zero_add, cell_bk hh, List.getElem?_append_left (List.getElem?_eq_some_iff.1 hu).1, hu])
  rw [encs_len] at this
  simpa [Builtin.firstCells] using this
theorem encs_get_div {xs : List α} {j : Nat} (hj : j < xs.length * Enc.sz α) : ∃ y, xs[j / Enc.sz α]? = some y ∧ (encs xs)[j]? = (Enc.enc y)[j % Enc.sz α]? := by
 have hp := Enc.pos (α := α)
 have hk : j / Enc.sz α < xs.length := (Nat.div_lt_iff_lt_mul hp).2 hj
 refine ⟨xs[j / Enc.sz α], List.getElem?_eq_getElem hk, ?_⟩
 have := encs_get (List.getElem?_eq_getElem hk) (Nat.mod_lt j hp) []
 rw [append_nil] at this
 rw [← this]
 congr 1
 rw [Nat.mul_comm]; exact (Nat.div_add_mod j _).symm
theorem Rs.src {xs : List α} {v : Value} {h : Hp} {w : World} (hs : Rs xs v h) {g : World} (ho : on g h w) : Src P (Enc.sz α) v xs.length (encs xs) w := by
 obtain ⟨a, c, rfl, le, f⟩ := hs
 refine ⟨by simp [Builtin.lenOf], ?_⟩
 cases a with
 | none =>
  have hx : xs = [] := by
   cases xs with
   | nil => rfl
   | cons y r => obtain ⟨b, off, e, _⟩ := f 0 y rfl; cases e
  subst hx
  simp [Builtin.firstCells, encs]
 | some a =>
  have := run_loadCells_list (P := P) w a (encs xs) (fun j u hu => by
   have hj := (List.getElem?_eq_some_iff.1 hu).1
   rw [encs_len] at hj
   obtain ⟨y, hy, he⟩ := encs_get_div hj
   obtain ⟨b, off, e, f2⟩ := f _ y hy
   cases e
   rw [add_none]
   have := f2 _ u (by rw [← he]; exact hu) g w ho
   rwa [show off + (j / Enc.sz α * Enc.sz α + j % Enc.sz α) = off + j by rw [Nat.mul_comm, Nat.div_add_mod]] at this)
  rw [encs_len] at this
  simpa [Builtin.firstCells] using this
theorem strs_src {s : ByteArray} {w : World} : Src P 1 (.string s) s.size (encs s.data.toList) w := by
 refine ⟨by simp [Builtin.lenOf], ?_⟩
 have e : (s.extract 0 s.size) = s := by simp
 simp only [Builtin.firstCells, e, Sem.run_pure]
 congr 1
 simp only [encs, Enc.enc]
 apply Array.toList_inj.1
 simp [flatMap_def, List.flatten, map_map]
 induction s.data.toList with
 | nil => rfl
 | cons x r ih => simp [ih]
theorem range_zeros (zs : List Value) (m : Nat) (hm : zs.length = m) (hp : 0 < m) : ∀ n, (List.range (n * m)).map (fun i => (zs.toArray)[i % m]!) = (List.replicate n zs).flatten
 | 0 => by simp
 | n + 1 => by
  rw [Nat.succ_mul, range_add, map_append, range_zeros zs m hm hp n, replicate_succ', flatten_append]
  congr 1
  rw [map_map]
  simp only [flatten_cons, flatten_nil, append_nil]
  apply ext_getElem
  ·simp [hm]
  ·intro i h1 h2
   simp only [getElem_map, getElem_range, Function.comp]
   rw [Nat.mul_add_mod_of_lt (by omega)]
   simp [h2]
theorem zeroCells_len (z : Array Value) (n : Nat) : (Builtin.zeroCells z n).size = n * z.size := by simp [Builtin.zeroCells]
theorem run_append {T t t2 bytes m : Nat} {ag : Bool} {xs : List α} {v v2 : Value} {h : Hp} {ys : List α} {ty : TypeId} {zs : List Value} {d2 : TypeDesc} [ht : TU P t (.slice T)] [ht2 : TU P t2 d2] (hd2 : ∀ k, d2 ≠ .int k)
  [hl : TL P T m ag] [hb : TB P T bytes] [hz : TZ P T zs] (hm : m = Enc.sz α) (hzl : zs.length = m) (hbp : 0 < bytes) (hs : IsSl T xs v h) {w : World} (hw : ∀ b o, (b, o) ∈ h → w.heap[b]? = some o)
  (hsrc : ∀ w' : World, w'.heap = w.heap → Src P (Enc.sz α) v2 ys.length (encs ys) w')
  (hbd : (2 * (xs.length + ys.length) + 256) * bytes ≤ 281474976710656) :
  ∃ v' w', (Builtin.append_ #[t, t2] ty #[v, v2]).run P w = .ok v' w' ∧ Amb w w' ∧
   ((∃ b o o', h = [(b, o)] ∧ w'.heap[b]? = some o' ∧ (∀ k, k ≠ b → w'.heap[k]? = w.heap[k]?) ∧ IsSl T (xs ++ ys) v' [(b, o')]) ∨
    (h = [] ∧ w'.heap = w.heap ∧ IsSl T (xs ++ ys) v' []) ∨
    (∃ o, w'.heap = w.heap.push o ∧ IsSl T (xs ++ ys) v' [(w.heap.size, o)])) := by
 subst hm
 have hby : ∃ i, P.info? T = some i ∧ i.bytes = bytes := by
  have := hb.s
  cases hi : P.info? T with
  | none => simp [hi] at this
  | some i => exact ⟨i, rfl, by simpa [hi] using this⟩
 obtain ⟨inf, hinf, hbytes⟩ := hby
 obtain ⟨i', z, g1, g2, g3⟩ := hz.h
 have hi' : i' = inf := Option.some.inj (g1.symm.trans hinf)
 subst hi'
 have hzero : ∀ w' : World, (zeroValue T).run P w' = .ok z w' := fun w' => by simp [zeroValue, typeInfo, hinf, g2]
 have hzs : z.cells.size = Enc.sz α := by rw [g3]; simpa using hzl
 have hty : ∀ w' : World, (typeInfo T).run P w' = .ok i' w' := fun w' => by simp [typeInfo, hinf]
 have hold := fun (w' : World) (e : w'.heap = w.heap) => hs.src (P := P) (w := w') (fun b o hm => by rw [e]; exact hw b o hm)
 have hints : (match (generalizing := false) d2 with | .int _ => true | _ => false) = false := by cases d2 <;> first | rfl | exact absurd rfl (hd2 _)
 obtain ⟨base, cap, rfl, hroom⟩ : ∃ base cap, v = .slice base xs.length cap ∧ ((base = none ∧ xs = [] ∧ h = [] ∧ cap = 0) ∨ ∃ b sp fr, base = some ⟨b, 0, none⟩ ∧ h = [(b, .cells (List.toArray (encs xs ++ sp)) T fr)] ∧ xs.length ≤ cap ∧ sp.length = (cap - xs.length) * Enc.sz α ∧ Free fr (cap * Enc.sz α)) := by
  rcases hs with ⟨rfl, rfl, rfl⟩ | ⟨b, cap, sp, fr, rfl, rfl, h1, h2, h3⟩
  ·exact ⟨none, 0, rfl, .inl ⟨rfl, rfl, rfl, rfl⟩⟩
  ·exact ⟨_, _, rfl, .inr ⟨b, sp, fr, rfl, rfl, h1, h2, h3⟩⟩
 by_cases hfit : xs.length + ys.length ≤ cap
 ·rcases hroom with ⟨rfl, rfl, rfl, rfl⟩ | ⟨b, sp, fr, rfl, rfl, h1, h2, h3⟩
  ·have hy : ys = [] := by
    cases ys with
    | nil => rfl
    | cons _ _ => simp at hfit
   subst hy
   have s1 := hsrc w rfl
   have s2 := s1.len
   have s3 := s1.cells
   simp only [length_nil] at s2 s3
   refine ⟨.slice none 0 0, w, ?_, Amb.refl w, .inr (.inl ⟨rfl, rfl, .inl ⟨rfl, rfl, rfl⟩⟩)⟩
   simp [Builtin.append_, ht.run, ht2.run, hl.sizeOf, hints, s2, s3]
  ·have s1 := hsrc w rfl
   have hh := hw b _ (mem_cons_self)
   have hlen : (encs xs ++ sp).length = cap * Enc.sz α := by rw [length_append, encs_len, h2, ← Nat.add_mul]; congr 1; omega
   have hfit2 : xs.length * Enc.sz α + ys.length * Enc.sz α ≤ cap * Enc.sz α := by rw [← Nat.add_mul]; exact Nat.mul_le_mul_right _ hfit
   obtain ⟨w', e1, e2, e3, e4⟩ := run_storeCellsF (P := P) (encs ys) (xs.length * Enc.sz α) 0 _ w hh (by rw [hlen]; exact h3) (by rw [hlen, encs_len]; simpa using hfit2) (encs_one ys)
   refine ⟨.slice (some ⟨b, 0, none⟩) (xs.length + ys.length) cap, w', ?_, e2, .inl ⟨b, _, _, rfl, e3, e4, .inr ⟨b, cap, sp.drop (ys.length * Enc.sz α), fr, by simp, ?_, by simpa using hfit, ?_, h3⟩⟩⟩
   ·simp [Builtin.append_, ht.run, ht2.run, hl.sizeOf, hints, s1.len, s1.cells, hfit, add_none, e1]
   ·congr 4
    rw [Nat.add_zero, ← encs_len xs, show (encs xs).length = (encs xs).length + 0 from rfl, setAt_append_right, encs_append, append_assoc]
    congr 1
    have hsp : sp = sp.take (ys.length * Enc.sz α) ++ sp.drop (ys.length * Enc.sz α) := (take_append_drop _ _).symm
    have hspl : ys.length * Enc.sz α ≤ sp.length := by rw [h2]; exact Nat.mul_le_mul_right _ (by omega)
    conv => lhs; rw [hsp]
    rw [setAt_append_left _ _ _ _ (by rw [encs_len, length_take, Nat.min_eq_left hspl]; omega)]
    congr 1
    have := setAt_all (encs ys) (sp.take (ys.length * Enc.sz α)) 0 [] rfl (by rw [length_take, Nat.min_eq_left hspl, encs_len])
    simpa using this
   ·rw [length_drop, h2, ← Nat.sub_mul, length_append]; congr 1; omega
 ·have hcap : ¬ (xs.length + ys.length ≤ cap) := hfit
  have hn := nextcap_le (xs.length + ys.length) cap (by omega)
  have hbig : ¬ (Builtin.nextslicecap (xs.length + ys.length) cap * bytes > 281474976710656) := by
   have := Nat.mul_le_mul_right bytes hn; omega
  have s1 := hsrc w rfl
  have e1 := (hold w.drew rfl).cells
  have e2 := (hsrc w.drew rfl).cells
  have hcut : ∃ r, (Question.appendCap (xs.length + ys.length) cap T).cut (w.tape w.drawn (Question.appendCap (xs.length + ys.length) cap T)) = xs.length + ys.length + r := ⟨_, rfl⟩
  obtain ⟨r, hr⟩ := hcut
  refine ⟨.slice (some ⟨w.heap.size, 0, none⟩) (xs.length + ys.length) (xs.length + ys.length + r), World.alloc w.drew (.cells (List.toArray (encs (xs ++ ys) ++ (Builtin.zeroCells z.cells r).toList)) T (0, 0)), ?_, ?_, .inr (.inr ⟨.cells (List.toArray (encs (xs ++ ys) ++ (Builtin.zeroCells z.cells r).toList)) T (0, 0), rfl, .inr ⟨w.heap.size, xs.length + ys.length + r, (Builtin.zeroCells z.cells r).toList, (0, 0), by simp, rfl, ?_, ?_, Free.zero _⟩⟩)⟩
  ·have hb0 : ¬ (i'.bytes = 0) := by omega
   have hbig' : ¬ (281474976710656 < Builtin.nextslicecap (xs.length + ys.length) cap * i'.bytes) := by rw [hbytes]; omega
   simp [Builtin.append_, ht.run, ht2.run, hl.sizeOf, hints, s1.len, hcap, hty, hzero, hb0, hbig', Question.forced, hr, e1, e2, newRow, encs_append]
   congr 2
   apply Array.toList_inj.1
   simp
  ·exact ⟨rfl, rfl, rfl, by simp⟩
  ·simp
  ·simp [zeroCells_len, hzs]
end
section
variable {α : Type} [E : Enc α] {P : Program} {g : World}
theorem foldl_setAt (off : Nat) : ∀ (vs : List Value) (j : Nat) (cells : Array Value), (vs.zipIdx j).foldl (fun (cs : Array Value) (x : Value × Nat) => cs.setIfInBounds (off + x.2) x.1) cells = (setAt cells.toList (off + j) vs).toArray
 | [], j, cells => by simp [setAt]
 | v :: vs, j, cells => by
  simp only [zipIdx_cons, foldl_cons]
  rw [foldl_setAt off vs (j + 1)]
  simp [setAt, Nat.add_assoc]
theorem fill_all (m : Nat) : ∀ (ys : List α) (vs : List Value) (k : Nat) (l r : List Value), m = Enc.sz α → l.length = k * m → r.length = ys.length * m → vs.map (·.cells.toList) = ys.map Enc.enc →
  Instr.fill (fun i => some (i * m, m)) (List.toArray (l ++ r)) ((List.range' k ys.length).zip vs) = some (List.toArray (l ++ encs ys))
 | [], [], k, l, r, _, _, h2, _ => by
  have : r = [] := length_eq_zero_iff.1 (by simpa using h2)
  subst this
  simp [Instr.fill, encs]
 | [], _ :: _, _, _, _, _, _, _, h => by simp at h
 | _ :: _, [], _, _, _, _, _, _, h => by simp at h
 | y :: ys, u :: vs, k, l, r, hm, h1, h2, h3 => by
  simp only [map_cons, List.cons.injEq] at h3
  simp only [length_cons, Nat.succ_mul] at h2
  have hu : u.cells.size = m := by rw [← Array.length_toList, h3.1, Enc.len, hm]
  have hc : ¬ (u.cells.size ≠ m ∨ k * m + u.cells.size > (List.toArray (l ++ r)).size) := by simp; omega
  simp only [length_cons, List.range'_succ, zip_cons_cons, Instr.fill]
  rw [if_neg (by simpa using hc)]
  have e : u.cells.zipIdx.foldl (fun (cs : Array Value) (x : Value × Nat) => cs.setIfInBounds (k * m + x.2) x.1) (List.toArray (l ++ r)) = List.toArray ((l ++ Enc.enc y) ++ r.drop m) := by
   rw [← Array.foldl_toList, Array.toList_zipIdx, foldl_setAt, h3.1]
   simp only [Nat.add_zero]
   rw [← h1, show l.length = l.length + 0 from rfl, setAt_append_right]
   congr 1
   rw [append_assoc]
   congr 1
   have hr : r = r.take m ++ r.drop m := (take_append_drop _ _).symm
   conv => lhs; rw [hr]
   rw [setAt_append_left _ _ _ _ (by rw [Enc.len, length_take]; omega)]
   congr 1
   have := setAt_all (Enc.enc y) (r.take m) 0 [] rfl (by rw [length_take, Enc.len]; omega)
   simpa using this
  rw [e]
  have ih := fill_all m ys vs (k + 1) (l ++ Enc.enc y) (r.drop m) hm (by simp [h1, Enc.len, Nat.succ_mul, hm]) (by simp; omega) h3.2
  rw [ih]
  simp [encs]
end
section
variable {g : World} {P : Program} {ops : Array Oper} {Q : Exit → Act → World → Prop} {n : Nat} {os rest : List Oper} {L L' : Fm} {H H' : HH} {q : Bool}
variable {d : Nat} {op : Op} {ty : TypeId} {pos : String} {af : Array Edge} {v v2 : Value}
variable {α : Type} [E : Enc α] {xs ys : List α} {y : α} {T T2 k : Nat} {h h2 : Hp}
theorem Swp.new {h : Hp} {H : HH} {K : Hp → HH} {w w' : World} {o : Obj} (s : Swp h H K) (ho : on g H.flatten w) (a : Amb w w') (e : w'.heap = w.heap.push o) : on g (K [(w.heap.size, o)]).flatten w' := by
 obtain ⟨l, r, e1, e2⟩ := s.p
 have h1 : on g ((w.heap.size, o) :: H.flatten) (w.alloc o) := ho.alloc o
 have h2 : on g ((w.heap.size, o) :: H.flatten) w' := ⟨ho.1.trans a, h1.2.1, fun b o' hm => by rw [e]; exact h1.2.2 b o' hm⟩
 rw [e1] at h2
 rw [e2]
 have h3 : on g ((w.heap.size, o) :: (l ++ r)) w' := h2.sub (by
  refine List.Sublist.cons_cons _ ?_
  rw [append_assoc]
  exact List.Sublist.append (List.Sublist.refl _) (sublist_append_right _ _))
 refine h3.perm ?_
 rw [append_assoc]
 exact perm_middle.symm
theorem Swp.gone {h : Hp} {H : HH} {K : Hp → HH} {w w' : World} (s : Swp h H K) (ho : on g H.flatten w) (a : Amb w w') (e : w'.heap = w.heap) (hh : h = []) : on g (K []).flatten w' := by
 obtain ⟨l, r, e1, e2⟩ := s.p
 subst hh
 rw [e2, ← e1]
 exact ho.heap e a
theorem app_core {x z : Operand} {t t2 m bytes : Nat} {ag : Bool} {zs : List Value} {d2 : TypeDesc} {K : Hp → HH} (hx : ev L x = some v) (hz : ev L z = some v2) (hs : IsSl T xs v h)
  (hsrc : ∀ w, on g H.flatten w → ∀ w' : World, w'.heap = w.heap → Src P (Enc.sz α) v2 ys.length (encs ys) w') [hw : Swp h H K] [ht : TU P t (.slice T)] [ht2 : TU P t2 d2] (hd2 : ∀ k, d2 ≠ .int k)
  [hl : TL P T m ag] [hb : TB P T bytes] [hzz : TZ P T zs] (hm : m = Enc.sz α) (hzl : zs.length = m) (hbp : 0 < bytes) (hbd : (2 * (xs.length + ys.length) + 256) * bytes ≤ 281474976710656) (hd : Nat.blt d n = true)
  (kk : ∀ v' h', IsSl T (xs ++ ys) v' h' → WX false g P ops Q n rest ((d, v') :: L) (K h')) :
  WX false g P ops Q n (⟨some d, .call ⟨.builtin .append, #[x, z], #[t, t2]⟩, ty, pos, af, none⟩ :: rest) L H := by
 refine WX.eff hd fun a w ha ho => ?_
 obtain ⟨v', w', hr, ham, hc⟩ := run_append (ty := ty) (t := t) (t2 := t2) hd2 hm hzl hbp hs (fun b o hm => (hw.onx ho).2.2 b o hm) (hsrc w ho) hbd
 have hrun : (execOp a.eval ⟨some d, .call ⟨.builtin .append, #[x, z], #[t, t2]⟩, ty, pos, af, none⟩).run P w = .ok (.value v') w' :=
  run_bi (args := [x, z]) (vs := [v, v2]) (by simp [ha.ev hx, ha.ev hz]) (by simp [builtin, hr])
 rcases hc with ⟨b, o, o', rfl, h1, h2, h3⟩ | ⟨h1, h2, h3⟩ | ⟨o, h1, h2⟩
 ·exact ⟨v', w', _, hrun, hw.set (T := T) ho ham h1 h2, kk _ _ h3⟩
 ·exact ⟨v', w', _, hrun, hw.gone ho ham h2 h1, kk _ _ h3⟩
 ·exact ⟨v', w', _, hrun, hw.new ho ham h1, kk _ _ h2⟩
theorem WX.app {x z : Operand} {t t2 m bytes : Nat} {ag : Bool} {zs : List Value} {e2 : Nat} {K K2 : Hp → HH} (hx : ev L x = some v) (hz : ev L z = some v2) (hs : IsSl T xs v h) (hs2 : Rs ys v2 h2)
  [hw : Swp h H K] [hw2 : Swp h2 H K2] [ht : TU P t (.slice T)] [ht2 : TU P t2 (.slice e2)]
  [hl : TL P T m ag] [hb : TB P T bytes] [hzz : TZ P T zs] (hm : m = Enc.sz α) (hzl : zs.length = m) (hbp : 0 < bytes) (hbd : (2 * (xs.length + ys.length) + 256) * bytes ≤ 281474976710656) (hd : Nat.blt d n = true)
  (kk : ∀ v' h', IsSl T (xs ++ ys) v' h' → WX false g P ops Q n rest ((d, v') :: L) (K h')) :
  WX false g P ops Q n (⟨some d, .call ⟨.builtin .append, #[x, z], #[t, t2]⟩, ty, pos, af, none⟩ :: rest) L H :=
 app_core hx hz hs (fun w ho w' e => hs2.src (g := w') (by
  have := hw2.onx ho
  exact ⟨Amb.refl w', this.2.1, fun b o hm => by rw [e]; exact this.2.2 b o hm⟩)) (by intro k hk; cases hk) hm hzl hbp hbd hd kk
theorem WX.appS {x z : Operand} {t t2 bytes : Nat} {ag : Bool} {zs : List Value} {K : Hp → HH} {xs : List UInt8} {s : ByteArray} (hx : ev L x = some v) (hz : ev L z = some (.string s)) (hs : IsSl T xs v h)
  [hw : Swp h H K] [ht : TU P t (.slice T)] [ht2 : TU P t2 .string]
  [hl : TL P T 1 ag] [hb : TB P T bytes] [hzz : TZ P T zs] (hzl : zs.length = 1) (hbp : 0 < bytes) (hbd : (2 * (xs.length + s.data.toList.length) + 256) * bytes ≤ 281474976710656) (hd : Nat.blt d n = true)
  (kk : ∀ v' h', IsSl T (xs ++ s.data.toList) v' h' → WX false g P ops Q n rest ((d, v') :: L) (K h')) :
  WX false g P ops Q n (⟨some d, .call ⟨.builtin .append, #[x, z], #[t, t2]⟩, ty, pos, af, none⟩ :: rest) L H :=
 app_core hx hz hs (fun w ho w' e => strs_src) (by intro k hk; cases hk) rfl hzl hbp hbd hd kk
theorem WX.lit {t m : Nat} {ag : Bool} {zs : List Value} {ys : List α} {vs : List Value} {parts : List (Nat × Operand)} {len : Nat} [ht : TU P t (.slice T)] [hl : TL P T m ag] [hzz : TZ P T zs] (hm : m = Enc.sz α) (hzl : zs.length = m)
  (hx : evs L (parts.map (·.2)) = some vs) (hi : parts.map (·.1) = List.range' 0 ys.length) (hlen : len = ys.length) (hv : vs.map (·.cells.toList) = ys.map Enc.enc) (hb : len * m ≤ 16777216) (hd : Nat.blt d n = true)
  (kk : ∀ v' h', IsSl T ys v' h' → WX false g P ops Q n rest ((d, v') :: L) (h' :: H)) :
  WX false g P ops Q n (⟨some d, .buildSlice t len parts.toArray, ty, pos, af, none⟩ :: rest) L H := by
 subst hlen
 refine WX.eff hd fun a w ha ho => ?_
 obtain ⟨z, h1, h2⟩ := hzz.run (w := w)
 have e := ha.evs hx
 have e2 : parts.map (fun x => (x.1, a.eval x.2)) = (parts.map (·.1)).zip vs := by
  rw [← e, map_map, zip_map', Function.comp_def]
 have hsz : z.cells.size = m := by rw [h2]; simpa using hzl
 have hf := fill_all m ys vs 0 [] (List.replicate ys.length zs).flatten hm (by simp) (by simp [hzl]) hv
 rw [← hi, ← e2] at hf
 simp only [nil_append] at hf
 refine ⟨.slice (some ⟨w.heap.size, 0, none⟩) ys.length ys.length, w.alloc (.cells (List.toArray (encs ys)) T (0, 0)), _, ?_, ?_, kk _ [(w.heap.size, .cells (List.toArray (encs ys)) T (0, 0))] (IsSl.of_block T w.heap.size ys)⟩
 ·have hb' : ¬ (16777216 < ys.length * m) := by omega
  by_cases h0 : ys.length * m = 0
  ·have hm0 : 0 < m := by rw [hm]; exact Enc.pos
   have hy0 : ys.length = 0 := by
    rcases Nat.mul_eq_zero.1 h0 with h | h
    ·exact h
    ·omega
   obtain rfl : ys = [] := length_eq_zero_iff.1 hy0
   have hp : parts = [] := by
    cases parts with
    | nil => rfl
    | cons _ _ => simp at hi
   subst hp
   simp [execOp, Instr.buildSlice, ht.run, hl.sizeOf, Instr.fill, newRow, encs]
   congr 2
   exact Array.toList_inj.1 (by simp)
  ·have h0' : ¬ (ys = [] ∨ m = 0) := by
    rintro (h | h)
    ·subst h; simp at h0
    ·subst h; simp at h0
   have hr := range_zeros zs m hzl (by rw [hm]; exact Enc.pos) ys.length
   have hr' : (Array.range (ys.length * m)).map (fun i => (zs.toArray)[i % m]!) = List.toArray (List.replicate ys.length zs).flatten := by
    apply Array.toList_inj.1
    simpa using hr
   simp [execOp, Instr.buildSlice, ht.run, hl.sizeOf, hb', h0', h1, h2, hzl, newRow]
   rw [if_neg h0]
   have hr2 : (Array.range (ys.length * m)).map (fun x => zs[x % m]?.getD default) = List.toArray (List.replicate ys.length zs).flatten := by
    rw [← hr']; simp
   rw [hr2, hf]
   simp
 ·exact ho.alloc _
end
/- Guards for the scripts: which operation stands next. -/
section
variable {g : World} {P : Program} {ops : Array Oper} {Q : Exit → Act → World → Prop} {n : Nat} {rest : List Oper} {L : Fm} {H : HH} {q : Bool}
variable {d : Nat} {dst : Option Tmp} {op : Op} {ty : TypeId} {pos : String} {af : Array Edge}
theorem I.gd {j : Nat × Bool} (h : WX q g P ops Q n (⟨dst, op, ty, pos, af, some j⟩ :: rest) L H) : WX q g P ops Q n (⟨dst, op, ty, pos, af, some j⟩ :: rest) L H := h
theorem I.cond {c : Operand} {x y : Code} (h : W g P (.cond c x y) Q n L H) : W g P (.cond c x y) Q n L H := h
theorem I.pk {x y z : Operand} (h : WX q g P ops Q n (⟨some d, .pick x y z, ty, pos, af, none⟩ :: rest) L H) : WX q g P ops Q n (⟨some d, .pick x y z, ty, pos, af, none⟩ :: rest) L H := h
theorem I.nc {x : Operand} (h : WX q g P ops Q n (⟨some d, .nilCheck x, ty, pos, af, none⟩ :: rest) L H) : WX q g P ops Q n (⟨some d, .nilCheck x, ty, pos, af, none⟩ :: rest) L H := h
theorem I.fa {x : Operand} {t f : Nat} (h : WX q g P ops Q n (⟨some d, .fieldAddr t x f, ty, pos, af, none⟩ :: rest) L H) : WX q g P ops Q n (⟨some d, .fieldAddr t x f, ty, pos, af, none⟩ :: rest) L H := h
theorem I.ld {x : Operand} {t : Nat} (h : WX q g P ops Q n (⟨some d, .load t x, ty, pos, af, none⟩ :: rest) L H) : WX q g P ops Q n (⟨some d, .load t x, ty, pos, af, none⟩ :: rest) L H := h
theorem I.bin {x y : Operand} {t t' : Nat} {bo : BinOp} (h : WX q g P ops Q n (⟨some d, .binOp bo t x y t', ty, pos, af, none⟩ :: rest) L H) : WX q g P ops Q n (⟨some d, .binOp bo t x y t', ty, pos, af, none⟩ :: rest) L H := h
theorem I.un {x : Operand} {t : Nat} {uo : UnOp} (h : WX q g P ops Q n (⟨some d, .unOp uo t x, ty, pos, af, none⟩ :: rest) L H) : WX q g P ops Q n (⟨some d, .unOp uo t x, ty, pos, af, none⟩ :: rest) L H := h
theorem I.bi {b : Builtin} {ags : Array Operand} {ts : Array TypeId} (h : WX q g P ops Q n (⟨some d, .call ⟨.builtin b, ags, ts⟩, ty, pos, af, none⟩ :: rest) L H) : WX q g P ops Q n (⟨some d, .call ⟨.builtin b, ags, ts⟩, ty, pos, af, none⟩ :: rest) L H := h
theorem I.biN {b : Builtin} {ags : Array Operand} {ts : Array TypeId} (h : WX q g P ops Q n (⟨none, .call ⟨.builtin b, ags, ts⟩, ty, pos, af, none⟩ :: rest) L H) : WX q g P ops Q n (⟨none, .call ⟨.builtin b, ags, ts⟩, ty, pos, af, none⟩ :: rest) L H := h
theorem I.ix {x y : Operand} {t : Nat} (h : WX q g P ops Q n (⟨some d, .indexAddr t x y, ty, pos, af, none⟩ :: rest) L H) : WX q g P ops Q n (⟨some d, .indexAddr t x y, ty, pos, af, none⟩ :: rest) L H := h
theorem I.st {x y : Operand} {t : Nat} (h : WX q g P ops Q n (⟨none, .store t x y, ty, pos, af, none⟩ :: rest) L H) : WX q g P ops Q n (⟨none, .store t x y, ty, pos, af, none⟩ :: rest) L H := h
theorem I.bd {t : Nat} {ps : Array (Nat × Operand)} (h : WX q g P ops Q n (⟨some d, .build t ps, ty, pos, af, none⟩ :: rest) L H) : WX q g P ops Q n (⟨some d, .build t ps, ty, pos, af, none⟩ :: rest) L H := h
theorem I.bs {t l : Nat} {ps : Array (Nat × Operand)} (h : WX q g P ops Q n (⟨some d, .buildSlice t l ps, ty, pos, af, none⟩ :: rest) L H) : WX q g P ops Q n (⟨some d, .buildSlice t l ps, ty, pos, af, none⟩ :: rest) L H := h
theorem I.sl {x : Operand} {t : Nat} {lo hi mx : Option Operand} (h : WX q g P ops Q n (⟨some d, .slice t x lo hi mx, ty, pos, af, none⟩ :: rest) L H) : WX q g P ops Q n (⟨some d, .slice t x lo hi mx, ty, pos, af, none⟩ :: rest) L H := h
theorem I.fd {x : Operand} {t f : Nat} (h : WX q g P ops Q n (⟨some d, .field t x f, ty, pos, af, none⟩ :: rest) L H) : WX q g P ops Q n (⟨some d, .field t x f, ty, pos, af, none⟩ :: rest) L H := h
theorem I.ixv {x y : Operand} {t : Nat} (h : WX q g P ops Q n (⟨some d, .index t x y, ty, pos, af, none⟩ :: rest) L H) : WX q g P ops Q n (⟨some d, .index t x y, ty, pos, af, none⟩ :: rest) L H := h
theorem I.cl {f : FuncId} {ags : Array Operand} {ts : Array TypeId} (h : WX q g P ops Q n (⟨some d, .call ⟨.value (.func f), ags, ts⟩, ty, pos, af, none⟩ :: rest) L H) : WX q g P ops Q n (⟨some d, .call ⟨.value (.func f), ags, ts⟩, ty, pos, af, none⟩ :: rest) L H := h
end
section
variable {P : Program} {ops : Array Oper} {md : Region.Mode} {C : World → Prop}
def UnY (P : Program) (ops : Array Oper) (C : World → Prop) (o : Oper) (v : Value) (a : Act) : Prop :=
 (Region.wanted o (yielded ops a.tmps) = true ∧ ∀ w, C w → (execOp a.eval o).run P w = .ok (.value v) w) ∨ (Region.wanted o (yielded ops a.tmps) = false ∧ v = undef)
def AnR (P : Program) (ops : Array Oper) (o : Oper) (K : Value → World → Prop) (a : Act) (w : World) : Prop :=
 (Region.wanted o (yielded ops a.tmps) = false ∧ K undef w) ∨
 (Region.wanted o (yielded ops a.tmps) = true ∧
  ((∃ v w', (execOp a.eval o).run P w = .ok (.value v) w' ∧ K v w') ∨ (∃ w', (execOp a.eval o).run P w = .ok .skip w' ∧ K undef w') ∨
   ∃ f args w', (execOp a.eval o).run P w = .ok (.enter f args) w' ∧ Calls P f args w' fun e w'' => ∃ v, e = .returned v ∧ K v w''))
theorem AnR.mono {o : Oper} {K K' : Value → World → Prop} {a : Act} {w : World} (h : AnR P ops o K a w) (k : ∀ v w, K v w → K' v w) : AnR P ops o K' a w := by
 rcases h with ⟨h1, h2⟩ | ⟨h1, ⟨v, w', h2, h3⟩ | ⟨w', h2, h3⟩ | ⟨f, args, w', h2, h3⟩⟩
 ·exact .inl ⟨h1, k _ _ h2⟩
 ·exact .inr ⟨h1, .inl ⟨v, w', h2, k _ _ h3⟩⟩
 ·exact .inr ⟨h1, .inr (.inl ⟨w', h2, k _ _ h3⟩)⟩
 ·exact .inr ⟨h1, .inr (.inr ⟨f, args, w', h2, h3.mono fun e w'' ⟨v, e1, e2⟩ => ⟨v, e1, k _ _ e2⟩⟩)⟩
theorem AnR.ex {o : Oper} {K : Value → World → Prop} {a : Act} {w : World} (h : AnR P ops o K a w) : ∃ v w', K v w' := by
 rcases h with ⟨h1, h2⟩ | ⟨h1, ⟨v, w', h2, h3⟩ | ⟨w', h2, h3⟩ | ⟨f, args, w', h2, h3⟩⟩
 ·exact ⟨_, _, h2⟩
 ·exact ⟨_, _, h3⟩
 ·exact ⟨_, _, h3⟩
 ·obtain ⟨e, w'', fr, ⟨v, _, hK⟩, _⟩ := h3 []
  exact ⟨_, _, hK⟩
theorem AnR.wpOp {o : Oper} {K : Value → World → Prop} {a : Act} {w : World} {Q : Exit → Act → World → Prop} {i : Nat} (hi : ops[i]? = some o) (h : AnR P ops o K a w) {K' : Act → World → Prop} (k : ∀ v w', K v w' → K' (a.put o.dst v) w') : Go.wpOp P ops Q i K' a w := by
 unfold Go.wpOp
 simp only [hi]
 rcases h with ⟨h1, h2⟩ | ⟨h1, h2⟩
 ·simp only [h1, Bool.false_eq_true, if_false]; exact k _ _ h2
 ·simp only [h1, if_true]
  refine .inl ?_
  unfold Oper.wp
  rcases h2 with ⟨v, w', h2, h3⟩ | ⟨w', h2, h3⟩ | ⟨f, args, w', h2, h3⟩
  ·rw [h2]; exact k _ _ h3
  ·rw [h2]; exact k _ _ h3
  ·rw [h2]
   refine h3.mono fun e w'' ⟨v, e1, e2⟩ => ?_
   subst e1
   exact k _ _ e2
theorem UnY.same {o : Oper} {v : Value} {a a' : Act} (h : UnY P ops C o v a) (he : execOp a'.eval o = execOp a.eval o) (hw : Region.wanted o (yielded ops a'.tmps) = Region.wanted o (yielded ops a.tmps)) : UnY P ops C o v a' := by
 unfold UnY at *; rw [he, hw]; exact h
theorem AnR.same {o : Oper} {K : Value → World → Prop} {a a' : Act} {w : World} (h : AnR P ops o K a w) (he : execOp a'.eval o = execOp a.eval o) (hw : Region.wanted o (yielded ops a'.tmps) = Region.wanted o (yielded ops a.tmps)) : AnR P ops o K a' w := by
 unfold AnR at *; rw [he, hw]; exact h
theorem UnY.uniq {o : Oper} {v v' : Value} {a : Act} {w : World} (hc : C w) (h : UnY P ops C o v a) (h' : UnY P ops C o v' a) : v = v' := by
 rcases h with ⟨h1, h2⟩ | ⟨h1, rfl⟩ <;> rcases h' with ⟨g1, g2⟩ | ⟨g1, rfl⟩
 ·have := (h2 w hc).symm.trans (g2 w hc)
  simpa using this
 ·rw [h1] at g1; cases g1
 ·rw [h1] at g1; cases g1
 ·rfl
def AM (P : Program) (md : Region.Mode) (ops : Array Oper) (C : World → Prop) (un : Nat → Bool) (L : Array Bool → Act → World → Prop) : Nat → Array Bool → Act → World → Prop
 | 0, listed, a, w => C w ∧ L listed a w
 | f + 1, listed, a, w => C w ∧ Region.ready md ops listed ≠ [] ∧ ∀ i ∈ Region.ready md ops listed, ∃ o, ops[i]? = some o ∧
   (match un i with
    | true => ∃ v, UnY P ops C o v a ∧ AM P md ops C un L f (listed.setIfInBounds i true) (a.put o.dst v) w
    | false => AnR P ops o (fun v w' => AM P md ops C un L f (listed.setIfInBounds i true) (a.put o.dst v) w') a w)
variable {un : Nat → Bool} {L : Array Bool → Act → World → Prop}
theorem AM.any {Q : Exit → Act → World → Prop} {gg : Nat} (hL : ∀ listed a w, L listed a w → wpAny P md ops Q gg listed a w) : ∀ (f : Nat) (listed : Array Bool) (a : Act) (w : World), AM P md ops C un L f listed a w → wpAny P md ops Q (f + gg) listed a w
 | 0, listed, a, w, h => by rw [Nat.zero_add]; exact hL _ _ _ h.2
 | f + 1, listed, a, w, h => by
  rw [show f + 1 + gg = (f + gg) + 1 by omega]
  refine ⟨fun e => absurd e h.2.1, fun i hi => ?_⟩
  obtain ⟨o, ho, h2⟩ := h.2.2 i hi
  cases hu : un i with
  | true =>
   rw [hu] at h2
   obtain ⟨v, hy, h3⟩ := h2
   have h4 := AM.any hL f _ _ _ h3
   unfold wpOp
   simp only [ho]
   rcases hy with ⟨y1, y2⟩ | ⟨y1, rfl⟩
   ·simp only [y1, if_true]
    refine .inl ?_
    unfold Oper.wp
    rw [y2 w h.1]; exact h4
   ·simp only [y1, Bool.false_eq_true, if_false]; exact h4
  | false =>
   rw [hu] at h2
   exact h2.wpOp ho fun v w' h3 => AM.any hL f _ _ _ h3
def waits (md : Region.Mode) (ops : Array Oper) : Nat → Nat → Nat → Bool
 | 0, _, _ => false
 | f + 1, j, i => match ops[j]? with
  | none => false
  | some oj => oj.after.any fun e => Region.binds md e && (e.on == i || waits md ops f e.on i)
def Closed (md : Region.Mode) (ops : Array Oper) (listed : Array Bool) : Prop := ∀ j oj, ops[j]? = some oj → listed.getD j false = true → ∀ e ∈ oj.after, Region.binds md e = true → listed.getD e.on false = true
theorem waits_listed {listed : Array Bool} (hc : Closed md ops listed) : ∀ (f j i : Nat) (oj : Oper), ops[j]? = some oj → (∀ e ∈ oj.after, Region.binds md e = true → listed.getD e.on false = true) → waits md ops f j i = true → listed.getD i false = true
 | 0, _, _, _, _, _, h => by cases h
 | f + 1, j, i, oj, hj, hall, h => by
  simp only [waits, hj] at h
  obtain ⟨e, he, hb⟩ := Array.any_eq_true'.1 h
  simp only [Bool.and_eq_true, Bool.or_eq_true, beq_iff_eq] at hb
  have h1 := hall e he hb.1
  rcases hb.2 with h2 | h2
  ·rw [← h2]; exact h1
  ·cases hx : ops[e.on]? with
   | none => cases f <;> simp [waits, hx] at h2
   | some ox => exact waits_listed hc f e.on i ox hx (hc e.on ox hx h1) h2
theorem Closed.set {listed : Array Bool} {i : Nat} (hc : Closed md ops listed) (hi : i ∈ Region.ready md ops listed) : Closed md ops (listed.setIfInBounds i true) := by
 obtain ⟨_, oi, hoi, hall⟩ := mem_ready.1 hi
 intro j oj hj hl e he hb
 by_cases hij : i = j
 ·subst hij
  have : oj = oi := Option.some.inj (hj.symm.trans hoi)
  subst this
  exact getD_set_true (hall e he hb)
 ·rw [getD_set_ne false hij] at hl
  exact getD_set_true (hc j oj hj hl e he hb)
theorem ready_waits {listed : Array Bool} {f j i : Nat} (hc : Closed md ops listed) (hj : j ∈ Region.ready md ops listed) (h : waits md ops f j i = true) : listed.getD i false = true := by
 obtain ⟨_, oj, hoj, hall⟩ := mem_ready.1 hj
 exact waits_listed hc f j i oj hoj hall h
structure MixOk (md : Region.Mode) (ops : Array Oper) (un : Nat → Bool) (m : Nat) : Prop where
 sel : ∀ (j : Nat) (o : Oper) cs b, ops[j]? = some o → o.op ≠ .select cs b
 chain : ∀ i j, i < j → j < m → un i = false → un j = false → ∃ f, waits md ops f j i = true
 sink : ∀ i t, i < m → m ≤ t → t < ops.size → ∃ f, waits md ops f t i = true
theorem tail_not {m k : Nat} {listed : Array Bool} (mo : MixOk md ops un m) (hc : Closed md ops listed) (hk : k < m) (hun : listed.getD k true = false) {t : Nat} (ht : t ∈ Region.ready md ops listed) : t < m := by
 rcases Nat.lt_or_ge t m with h | h
 ·exact h
 ·obtain ⟨_, ot, hot, _⟩ := mem_ready.1 ht
  obtain ⟨f0, hf0⟩ := mo.sink k t hk h (Array.getElem?_eq_some_iff.1 hot).1
  have := ready_waits hc ht hf0
  rw [getD_both hun] at this
  cases this
theorem AM.un_first {m k : Nat} {ok : Oper} {u : Value} (mo : MixOk md ops un m) (hk : ops[k]? = some ok) (hun : un k = true) (hkm : k < m) (hdone : ∀ listed a w, L listed a w → ∀ j ∈ Region.ready md ops listed, m ≤ j) :
  ∀ (f : Nat) (listed : Array Bool) (a : Act) (w : World), Closed md ops listed →
   (∀ j oj, ops[j]? = some oj → j ≠ k → listed.getD j true = false → (∀ e ∈ oj.after, Region.binds md e = true → e.on ≠ k) → ok.apart ops oj = true) →
   k ∈ Region.ready md ops listed → UnY P ops C ok u a → AM P md ops C un L f (listed.setIfInBounds k true) (a.put ok.dst u) w → AM P md ops C un L (f + 1) listed a w := by
 intro f
 induction f with
 | zero =>
  intro listed a w hc _ hr hy H
  have hkun := (mem_ready.1 hr).1
  refine ⟨H.1, fun h => (by rw [h] at hr; cases hr), fun j hj => ?_⟩
  by_cases hjk : j = k
  ·subst hjk
   refine ⟨ok, hk, ?_⟩
   rw [hun]
   exact ⟨u, hy, H⟩
  ·have h1 := hdone _ _ _ H.2 j (ready_mono hj hjk)
   have h2 := tail_not mo hc hkm hkun hj
   omega
 | succ f ih =>
  intro listed a w hc hfree hr hy H
  have hkun := (mem_ready.1 hr).1
  refine ⟨H.1, fun h => (by rw [h] at hr; cases hr), fun j hj => ?_⟩
  by_cases hjk : j = k
  ·subst hjk
   refine ⟨ok, hk, ?_⟩
   rw [hun]
   exact ⟨u, hy, H⟩
  ·obtain ⟨o, ho, h2⟩ := H.2.2 j (ready_mono hj hjk)
   obtain ⟨hjun, oj, hoj, hall⟩ := mem_ready.1 hj
   have : o = oj := Option.some.inj (ho.symm.trans hoj)
   subst this
   have hno : ∀ e ∈ o.after, Region.binds md e = true → e.on ≠ k := fun e he hb heq => by
    have h1 := hall e he hb
    rw [heq, getD_both hkun] at h1
    cases h1
   have hap := hfree j o hoj hjk hjun hno
   obtain ⟨q1, q2, q3⟩ := Oper.apart_spec hap
   have selj : ∀ cs b, o.op ≠ .select cs b := fun cs b => mo.sel j o cs b hoj
   have selk : ∀ cs b, ok.op ≠ .select cs b := fun cs b => mo.sel k ok cs b hk
   have hfree' : ∀ i oi, ops[i]? = some oi → i ≠ k → (listed.setIfInBounds j true).getD i true = false → (∀ e ∈ oi.after, Region.binds md e = true → e.on ≠ k) → ok.apart ops oi = true := fun i oi hi hik hl hn => by
    refine hfree i oi hi hik ?_ hn
    by_cases hji : j = i
    ·subst hji; exact hjun
    ·rwa [getD_set_ne true hji] at hl
   have hc' := hc.set hj
   have hr' := ready_mono hr (Ne.symm hjk)
   have hky : ∀ v, UnY P ops C ok u (a.put o.dst v) := fun v => hy.same (execOp_put ok selk a o.dst v fun d hd => q3 d hd) (wanted_put ok a o.dst v fun d hd => q3 d hd)
   refine ⟨o, hoj, ?_⟩
   cases huj : un j with
   | true =>
    rw [huj] at h2
    obtain ⟨v, hv, h3⟩ := h2
    refine ⟨v, hv.same (execOp_put o selj a ok.dst u fun d hd => q1 d hd).symm (wanted_put o a ok.dst u fun d hd => q1 d hd).symm, ih _ _ _ hc' hfree' hr' (hky v) ?_⟩
    rw [Array.setIfInBounds_comm _ _ hjk, ← Act.put_comm a u v q2]
    exact h3
   | false =>
    rw [huj] at h2
    refine (h2.same (execOp_put o selj a ok.dst u fun d hd => q1 d hd).symm (wanted_put o a ok.dst u fun d hd => q1 d hd).symm).mono fun v w' h3 => ?_
    refine ih _ _ _ hc' hfree' hr' (hky v) ?_
    rw [Array.setIfInBounds_comm _ _ hjk, ← Act.put_comm a u v q2]
    exact h3
theorem AM.an_first {m k : Nat} {ok : Oper} (mo : MixOk md ops un m) (hk : ops[k]? = some ok) (hun : un k = false) (hkm : k < m) (hdone : ∀ listed a w, L listed a w → ∀ j ∈ Region.ready md ops listed, m ≤ j) :
  ∀ (f : Nat) (listed : Array Bool) (a : Act) (w : World), Closed md ops listed → C w →
   (∀ j oj, ops[j]? = some oj → j ≠ k → listed.getD j true = false → (∀ e ∈ oj.after, Region.binds md e = true → e.on ≠ k) → ok.apart ops oj = true) →
   (∀ i, i < k → un i = false → listed.getD i true = true) →
   k ∈ Region.ready md ops listed → AnR P ops ok (fun v w' => AM P md ops C un L f (listed.setIfInBounds k true) (a.put ok.dst v) w') a w → AM P md ops C un L (f + 1) listed a w := by
 intro f
 induction f with
 | zero =>
  intro listed a w hc hcw _ _ hr H
  have hkun := (mem_ready.1 hr).1
  refine ⟨hcw, fun h => (by rw [h] at hr; cases hr), fun j hj => ?_⟩
  by_cases hjk : j = k
  ·subst hjk
   refine ⟨ok, hk, ?_⟩
   rw [hun]
   exact H
  ·obtain ⟨v0, w0, H0⟩ := H.ex
   have h1 := hdone _ _ _ H0.2 j (ready_mono hj hjk)
   have h2 := tail_not mo hc hkm hkun hj
   omega
 | succ f ih =>
  intro listed a w hc hcw hfree hpre hr H
  have hkun := (mem_ready.1 hr).1
  refine ⟨hcw, fun h => (by rw [h] at hr; cases hr), fun j hj => ?_⟩
  by_cases hjk : j = k
  ·subst hjk
   refine ⟨ok, hk, ?_⟩
   rw [hun]
   exact H
  ·obtain ⟨hjun, o, hoj, hall⟩ := mem_ready.1 hj
   have hjm := tail_not mo hc hkm hkun hj
   have huj : un j = true := by
    cases huj : un j with
    | true => rfl
    | false =>
     rcases Nat.lt_or_ge j k with h | h
     ·have := hpre j h huj
      rw [hjun] at this; cases this
     ·obtain ⟨f0, hf0⟩ := mo.chain k j (by omega) hjm hun huj
      have := ready_waits hc hj hf0
      rw [getD_both hkun] at this; cases this
   have hno : ∀ e ∈ o.after, Region.binds md e = true → e.on ≠ k := fun e he hb heq => by
    have h1 := hall e he hb
    rw [heq, getD_both hkun] at h1
    cases h1
   have hap := hfree j o hoj hjk hjun hno
   obtain ⟨q1, q2, q3⟩ := Oper.apart_spec hap
   have selj : ∀ cs b, o.op ≠ .select cs b := fun cs b => mo.sel j o cs b hoj
   have selk : ∀ cs b, ok.op ≠ .select cs b := fun cs b => mo.sel k ok cs b hk
   have hfree' : ∀ i oi, ops[i]? = some oi → i ≠ k → (listed.setIfInBounds j true).getD i true = false → (∀ e ∈ oi.after, Region.binds md e = true → e.on ≠ k) → ok.apart ops oi = true := fun i oi hi hik hl hn => by
    refine hfree i oi hi hik ?_ hn
    by_cases hji : j = i
    ·subst hji; exact hjun
    ·rwa [getD_set_ne true hji] at hl
   have hc' := hc.set hj
   have hr' := ready_mono hr (Ne.symm hjk)
   have hpre' : ∀ i, i < k → un i = false → (listed.setIfInBounds j true).getD i true = true := fun i h1 h2 => by
    by_cases hji : j = i
    ·subst hji
     rw [huj] at h2; cases h2
    ·rw [getD_set_ne true hji]; exact hpre i h1 h2
   have key : ∀ v w', AM P md ops C un L (f + 1) (listed.setIfInBounds k true) (a.put ok.dst v) w' → ∃ u, UnY P ops C o u a ∧ AM P md ops C un L f ((listed.setIfInBounds j true).setIfInBounds k true) ((a.put o.dst u).put ok.dst v) w' := fun v w' h => by
    obtain ⟨o', ho', h2⟩ := h.2.2 j (ready_mono hj hjk)
    have : o' = o := Option.some.inj (ho'.symm.trans hoj)
    subst this
    rw [huj] at h2
    obtain ⟨u, hu, h3⟩ := h2
    refine ⟨u, hu.same (execOp_put o' selj a ok.dst v fun d hd => q1 d hd).symm (wanted_put o' a ok.dst v fun d hd => q1 d hd).symm, ?_⟩
    rw [Array.setIfInBounds_comm _ _ hjk, ← Act.put_comm a v u q2]
    exact h3
   obtain ⟨v0, w0, H0⟩ := H.ex
   obtain ⟨u, hu, _⟩ := key v0 w0 H0
   refine ⟨o, hoj, ?_⟩
   rw [huj]
   refine ⟨u, hu, ih _ _ _ hc' hcw hfree' hpre' hr' ?_⟩
   refine (H.mono fun v w' h => ?_).same (execOp_put ok selk a o.dst u fun d hd => q3 d hd) (wanted_put ok a o.dst u fun d hd => q3 d hd)
   obtain ⟨u', hu', h4⟩ := key v w' h
   have : u' = u := UnY.uniq hcw hu' hu
   subst this
   exact h4
def lexM (P : Program) (ops : Array Oper) (C : World → Prop) (Q : Exit → Act → World → Prop) (tail : List Oper) : List (Bool × Oper) → Act → World → Prop
 | [], a, w => wpList P ops Q tail a w
 | (true, o) :: r, a, w => ∃ u, UnY P ops C o u a ∧ lexM P ops C Q tail r (a.put o.dst u) w
 | (false, o) :: r, a, w => AnR P ops o (fun v w' => C w' ∧ lexM P ops C Q tail r (a.put o.dst v) w') a w
theorem AM_lex {m gg : Nat} {Q : Exit → Act → World → Prop} {tail : List Oper} (mo : MixOk md ops un m) : ∀ (z : List (Bool × Oper)) (k : Nat) (listed : Array Bool) (a : Act) (w : World),
  (∀ j x, z[j]? = some x → ops[k + j]? = some x.2 ∧ un (k + j) = x.1) → k + z.length = m → Closed md ops listed → (∀ i, i < k → listed.getD i true = true) → Region.lexHead md ops gg z.length k listed = true → C w → lexM P ops C Q tail z a w →
  AM P md ops C un (fun listed' a' w' => Region.seqB md ops gg m listed' = true ∧ wpList P ops Q tail a' w') z.length listed a w
 | [], k, listed, a, w, _, hk, _, _, hB, hc, h => by
  have : k = m := by simpa using hk
  subst this
  exact ⟨hc, by simpa [Region.lexHead] using hB, h⟩
 | (b, o) :: z, k, listed, a, w, hz, hk, hcl, hpre, hB, hc, h => by
  obtain ⟨h0, h1⟩ := hz 0 (b, o) rfl
  simp only [Nat.add_zero] at h0 h1
  simp only [length_cons] at hk
  simp only [length_cons, Region.lexHead, Bool.and_eq_true] at hB
  obtain ⟨⟨hr, hf⟩, hB'⟩ := hB
  have hr' : k ∈ Region.ready md ops listed := by simpa using hr
  have hz' : ∀ j x, z[j]? = some x → ops[k + 1 + j]? = some x.2 ∧ un (k + 1 + j) = x.1 := fun j x hx => by
   have := hz (j + 1) x (by simpa using hx)
   rwa [show k + (j + 1) = k + 1 + j by omega] at this
  have hks : k < listed.size := by
   have := (mem_ready.1 hr').1
   rcases Nat.lt_or_ge k listed.size with h | h
   ·exact h
   ·simp [Array.getElem?_eq_none h] at this
  have hpre' : ∀ i, i < k + 1 → (listed.setIfInBounds k true).getD i true = true := fun i hi => by
   by_cases hik : k = i
   ·subst hik; simp [hks]
   ·rw [getD_set_ne true hik]; exact hpre i (by omega)
  have hdone : ∀ (listed' : Array Bool) (a' : Act) (w' : World), (Region.seqB md ops gg m listed' = true ∧ wpList P ops Q tail a' w') → ∀ j ∈ Region.ready md ops listed', m ≤ j := fun listed' a' w' hL => seqB_ready hL.1
  cases b with
  | true =>
   obtain ⟨u, hu, h2⟩ := h
   exact AM.un_first mo h0 h1 (by omega) hdone _ _ _ _ hcl (Region.free_spec h0 hf) hr' hu (AM_lex mo z (k + 1) _ _ _ hz' (by omega) (hcl.set hr') hpre' hB' hc h2)
  | false =>
   refine AM.an_first mo h0 h1 (by omega) hdone _ _ _ _ hcl hc (Region.free_spec h0 hf) (fun i hi _ => hpre i hi) hr' ?_
   exact AnR.mono h fun v w' h2 => AM_lex mo z (k + 1) _ _ _ hz' (by omega) (hcl.set hr') hpre' hB' h2.1 h2.2
def mixB (md : Region.Mode) (ops : Array Oper) (ms : List Bool) : Bool :=
 Region.noSelect ops && decide (ms.length ≤ ops.size) &&
 ((List.range ms.length).all fun j => (List.range j).all fun i => ms.getD i true || ms.getD j true || waits md ops 4 j i) &&
 ((List.range ops.size).all fun t => decide (t < ms.length) || (List.range ms.length).all fun i => waits md ops 4 t i) &&
 Region.lexHead md ops (ops.size - ms.length) ms.length 0 (Array.replicate ops.size false)
theorem mixB_ok {ms : List Bool} (h : mixB md ops ms = true) : MixOk md ops (fun i => ms.getD i true) ms.length ∧ ms.length ≤ ops.size ∧ Region.lexHead md ops (ops.size - ms.length) ms.length 0 (Array.replicate ops.size false) = true := by
 simp only [mixB, Bool.and_eq_true, decide_eq_true_eq] at h
 obtain ⟨⟨⟨⟨h1, h2⟩, h3⟩, h4⟩, h5⟩ := h
 refine ⟨⟨Region.noSelect_spec h1, fun i j hij hj hi hj' => ?_, fun i t hi ht hts => ?_⟩, h2, h5⟩
 ·have := all_eq_true.1 (all_eq_true.1 h3 j (mem_range.2 hj)) i (mem_range.2 hij)
  simp only [hi, hj', Bool.false_or] at this
  exact ⟨4, this⟩
 ·have := all_eq_true.1 h4 t (mem_range.2 hts)
  simp only [Bool.or_eq_true, decide_eq_true_eq] at this
  rcases this with h | h
  ·omega
  ·exact ⟨4, all_eq_true.1 h i (mem_range.2 hi)⟩
def mixN (n : Nat) (md : Region.Mode) (ops : Array Oper) (ms : List Bool) : Bool :=
 Region.noSelect ops && decide (ms.length ≤ ops.size) &&
 ((List.range ms.length).all fun j => (List.range j).all fun i => ms.getD i true || ms.getD j true || waits md ops n j i) &&
 ((List.range ops.size).all fun t => decide (t < ms.length) || (List.range ms.length).all fun i => waits md ops n t i) &&
 Region.lexHead md ops (ops.size - ms.length) ms.length 0 (Array.replicate ops.size false)
theorem mixN_ok {n : Nat} {ms : List Bool} (h : mixN n md ops ms = true) : MixOk md ops (fun i => ms.getD i true) ms.length ∧ ms.length ≤ ops.size ∧ Region.lexHead md ops (ops.size - ms.length) ms.length 0 (Array.replicate ops.size false) = true := by
 simp only [mixN, Bool.and_eq_true, decide_eq_true_eq] at h
 obtain ⟨⟨⟨⟨h1, h2⟩, h3⟩, h4⟩, h5⟩ := h
 refine ⟨⟨Region.noSelect_spec h1, fun i j hij hj hi hj' => ?_, fun i t hi ht hts => ?_⟩, h2, h5⟩
 ·have := all_eq_true.1 (all_eq_true.1 h3 j (mem_range.2 hj)) i (mem_range.2 hij)
  simp only [hi, hj', Bool.false_or] at this
  exact ⟨n, this⟩
 ·have := all_eq_true.1 h4 t (mem_range.2 hts)
  simp only [Bool.or_eq_true, decide_eq_true_eq] at this
  rcases this with h | h
  ·omega
  ·exact ⟨n, all_eq_true.1 h i (mem_range.2 hi)⟩
theorem wp_region_mix {id : Nat} {Q : Exit → Act → World → Prop} {a : Act} {w : World} {l : List Oper} (ms : List Bool) (hm : P.follows .mixedOrders = true) (hB : mixB .any l.toArray ms = true) (hC : C w.drew)
  (h : lexM P l.toArray C Q (l.drop ms.length) (ms.zip l) a w.drew) : (Code.region id l.toArray true).wp P Q a w := by
 obtain ⟨mo, hle, hlex⟩ := mixB_ok hB
 have hle' : ms.length ≤ l.length := by simpa using hle
 have hzl : (ms.zip l).length = ms.length := by rw [length_zip]; omega
 refine wp_region_any hm ?_
 have H := AM_lex (P := P) (C := C) (md := .any) (gg := l.toArray.size - ms.length) (Q := Q) (tail := l.drop ms.length) mo (ms.zip l) 0 (Array.replicate l.toArray.size false) a w.drew
  (fun j x hx => by
   rw [List.getElem?_zip_eq_some] at hx
   obtain ⟨x1, x2⟩ := hx
   simp [x1, x2]) (by rw [Nat.zero_add]; exact hzl) (fun j oj _ hl => by rw [getD_replicate_false] at hl; cases hl) (fun i hi => absurd hi (by omega)) (by rw [hzl]; exact hlex) hC h
 have := AM.any (Q := Q) (gg := l.toArray.size - ms.length) (fun listed a' w' hL => by
  have := wpAny_of_seq (md := .any) (Q' := Q) (l.drop ms.length) ms.length listed a' w' (fun j => by simp [List.getElem?_drop]) (by rw [length_drop]; simpa using hL.1) hL.2
  simpa using this) _ _ _ _ H
 rw [hzl, show ms.length + (l.toArray.size - ms.length) = l.toArray.size by omega] at this
 exact this
theorem wp_region_mixN {nn : Nat} {id : Nat} {Q : Exit → Act → World → Prop} {a : Act} {w : World} {l : List Oper} (ms : List Bool) (hm : P.follows .mixedOrders = true) (hB : mixN nn .any l.toArray ms = true) (hC : C w.drew)
  (h : lexM P l.toArray C Q (l.drop ms.length) (ms.zip l) a w.drew) : (Code.region id l.toArray true).wp P Q a w := by
 obtain ⟨mo, hle, hlex⟩ := mixN_ok hB
 have hle' : ms.length ≤ l.length := by simpa using hle
 have hzl : (ms.zip l).length = ms.length := by rw [length_zip]; omega
 refine wp_region_any hm ?_
 have H := AM_lex (P := P) (C := C) (md := .any) (gg := l.toArray.size - ms.length) (Q := Q) (tail := l.drop ms.length) mo (ms.zip l) 0 (Array.replicate l.toArray.size false) a w.drew
  (fun j x hx => by
   rw [List.getElem?_zip_eq_some] at hx
   obtain ⟨x1, x2⟩ := hx
   simp [x1, x2]) (by rw [Nat.zero_add]; exact hzl) (fun j oj _ hl => by rw [getD_replicate_false] at hl; cases hl) (fun i hi => absurd hi (by omega)) (by rw [hzl]; exact hlex) hC h
 have := AM.any (Q := Q) (gg := l.toArray.size - ms.length) (fun listed a' w' hL => by
  have := wpAny_of_seq (md := .any) (Q' := Q) (l.drop ms.length) ms.length listed a' w' (fun j => by simp [List.getElem?_drop]) (by rw [length_drop]; simpa using hL.1) hL.2
  simpa using this) _ _ _ _ H
 rw [hzl, show ms.length + (l.toArray.size - ms.length) = l.toArray.size by omega] at this
 exact this
end
class ND (P : Program) (o : Oper) : Prop where
 h : ∀ (a : Act) w nx w', (execOp a.eval o).run P w = .ok nx w' → (∃ v, nx = .value v) ∨ nx = .skip ∨ ∃ f args, nx = .enter f args
section
variable {P : Program} {d : Option Nat} {ty : TypeId} {pos : String} {af : Array Edge} {gd : Option (Nat × Bool)}
theorem nd_v {s : Sem Value} {w w' : World} {nx : Next} (h : (do pure (Next.value (← s)) : Sem Next).run P w = .ok nx w') : ∃ v, nx = .value v := by
 simp only [Sem.run_bind] at h
 cases hr : s.run P w with
 | ok v w1 => simp only [hr, Result.andThen_ok, Sem.run_pure, Result.ok.injEq] at h; exact ⟨v, h.1.symm⟩
 | halt x w1 => simp [hr] at h
theorem nd_u {s : Sem Unit} {w w' : World} {nx : Next} (h : (do s; pure Next.skip : Sem Next).run P w = .ok nx w') : nx = .skip := by
 simp only [Sem.run_bind] at h
 cases hr : s.run P w with
 | ok v w1 => simp only [hr, Result.andThen_ok, Sem.run_pure, Result.ok.injEq] at h; exact h.1.symm
 | halt x w1 => simp [hr] at h
instance ND.store {t : Nat} {x y : Operand} : ND P ⟨d, .store t x y, ty, pos, af, gd⟩ := ⟨fun _ _ _ _ h => .inr (.inl (nd_u h))⟩
instance ND.load {t : Nat} {x : Operand} : ND P ⟨d, .load t x, ty, pos, af, gd⟩ := ⟨fun _ _ _ _ h => .inl (nd_v h)⟩
instance ND.alloc {t : Nat} : ND P ⟨d, .alloc t, ty, pos, af, gd⟩ := ⟨fun _ _ _ _ h => .inl (nd_v h)⟩
instance ND.lit {t n : Nat} {ps : Array (Nat × Operand)} : ND P ⟨d, .buildSlice t n ps, ty, pos, af, gd⟩ := ⟨fun _ _ _ _ h => .inl (nd_v h)⟩
instance ND.call {f : FuncId} {ags : Array Operand} {ts : Array TypeId} [hn : Enters P f] : ND P ⟨d, .call ⟨.value (.func f), ags, ts⟩, ty, pos, af, gd⟩ := ⟨fun a w nx w' h => by
 have e0 : a.eval (.func f) = .func (.func f) #[] #[] := rfl
 simp only [execOp, resolve, e0] at h
 simp [Deferred.ofValue, invoke, callFunc_run hn] at h
 exact .inr (.inr ⟨_, _, h.1.symm⟩)⟩
instance ND.app {ags : Array Operand} {ts : Array TypeId} : ND P ⟨d, .call ⟨.builtin .append, ags, ts⟩, ty, pos, af, gd⟩ := ⟨fun ρ w nx w' h => by
 simp only [execOp, resolve, Sem.run_bind, Sem.run_pure, Result.andThen_ok, invoke, builtin] at h
 exact .inl (nd_v (by simpa using h))⟩
class NV (P : Program) (o : Oper) : Prop where
 h : ∀ (a : Act) w nx w', (execOp a.eval o).run P w = .ok nx w' → ∃ v, nx = .value v
instance NV.load {t : Nat} {x : Operand} : NV P ⟨d, .load t x, ty, pos, af, gd⟩ := ⟨fun _ _ _ _ h => nd_v h⟩
instance NV.move {x : Operand} : NV P ⟨d, .move x, ty, pos, af, gd⟩ := ⟨fun _ _ _ _ h => ⟨_, (Result.ok.inj h).1.symm⟩⟩
instance NV.assign {x : Operand} : NV P ⟨d, .assign x, ty, pos, af, gd⟩ := ⟨fun _ _ _ _ h => ⟨_, (Result.ok.inj h).1.symm⟩⟩
instance NV.pick {c x y : Operand} : NV P ⟨d, .pick c x y, ty, pos, af, gd⟩ := ⟨fun a w nx w' h => by
 simp only [execOp, Sem.run_bind] at h
 cases hr : (asBool (a.eval c)).run P w with
 | ok v w1 => simp only [hr, Result.andThen_ok, Sem.run_pure, Result.ok.injEq] at h; exact ⟨_, h.1.symm⟩
 | halt x w1 => simp [hr] at h⟩
instance NV.nilCheck {x : Operand} : NV P ⟨d, .nilCheck x, ty, pos, af, gd⟩ := ⟨fun a w nx w' h => by
 simp only [execOp] at h
 split at h
 ·simp [runtimePanic] at h
 ·simp [runtimePanic] at h
 ·simp [runtimePanic] at h
 ·split at h
  ·simp [runtimePanic] at h
  ·simp only [Sem.run_bind, run_program, Result.andThen_ok] at h
   cases hr : (nilAhead (P.types.size + Made.depth) _ _ _).run P w with
   | halt x w1 => rw [hr] at h; cases h
   | ok r w1 =>
    rw [hr] at h
    simp only [Result.andThen_ok] at h
    split at h
    ·simp at h
    ·exact ⟨_, (Result.ok.inj h).1.symm⟩
  ·exact ⟨_, (Result.ok.inj h).1.symm⟩
 ·exact ⟨_, (Result.ok.inj h).1.symm⟩⟩
instance NV.bin {bo : BinOp} {t t' : Nat} {x y : Operand} : NV P ⟨d, .binOp bo t x y t', ty, pos, af, gd⟩ := ⟨fun _ _ _ _ h => nd_v h⟩
instance NV.un {uo : UnOp} {t : Nat} {x : Operand} : NV P ⟨d, .unOp uo t x, ty, pos, af, gd⟩ := ⟨fun _ _ _ _ h => nd_v h⟩
instance NV.conv {t t' : Nat} {x : Operand} : NV P ⟨d, .convert t t' x, ty, pos, af, gd⟩ := ⟨fun _ _ _ _ h => nd_v h⟩
instance NV.fieldAddr {t f : Nat} {x : Operand} : NV P ⟨d, .fieldAddr t x f, ty, pos, af, gd⟩ := ⟨fun _ _ _ _ h => nd_v h⟩
instance NV.indexAddr {t : Nat} {x y : Operand} : NV P ⟨d, .indexAddr t x y, ty, pos, af, gd⟩ := ⟨fun _ _ _ _ h => nd_v h⟩
instance NV.slice {t : Nat} {x : Operand} {lo hi mx : Option Operand} : NV P ⟨d, .slice t x lo hi mx, ty, pos, af, gd⟩ := ⟨fun _ _ _ _ h => nd_v h⟩
instance NV.build {t : Nat} {ps : Array (Nat × Operand)} : NV P ⟨d, .build t ps, ty, pos, af, gd⟩ := ⟨fun _ _ _ _ h => nd_v h⟩
instance NV.extract {i : Nat} {x : Operand} : NV P ⟨d, .extract x i, ty, pos, af, gd⟩ := ⟨fun _ _ _ _ h => nd_v h⟩
theorem nv_bi {b : Builtin} (hb : ∀ ts ty cs vs, ∃ s : Sem Value, builtin b ts ty cs vs = (do pure (Next.value (← s)) : Sem Next)) {ags : Array Operand} {ts : Array TypeId} : NV P ⟨d, .call ⟨.builtin b, ags, ts⟩, ty, pos, af, gd⟩ := ⟨fun a w nx w' h => by
 simp only [execOp, resolve, Sem.run_bind, Sem.run_pure, Result.andThen_ok, invoke] at h
 have key : ∀ cs vs, (builtin b ts ty cs vs).run P w = .ok nx w' → ∃ v, nx = .value v := fun cs vs h => by
  obtain ⟨s, hs⟩ := hb ts ty cs vs
  rw [hs] at h
  exact nd_v h
 exact key _ _ h⟩
instance NV.len {ags : Array Operand} {ts : Array TypeId} : NV P ⟨d, .call ⟨.builtin .len, ags, ts⟩, ty, pos, af, gd⟩ := nv_bi fun _ _ _ _ => ⟨_, rfl⟩
instance NV.min {ags : Array Operand} {ts : Array TypeId} : NV P ⟨d, .call ⟨.builtin .min, ags, ts⟩, ty, pos, af, gd⟩ := nv_bi fun _ _ _ _ => ⟨_, rfl⟩
instance NV.max {ags : Array Operand} {ts : Array TypeId} : NV P ⟨d, .call ⟨.builtin .max, ags, ts⟩, ty, pos, af, gd⟩ := nv_bi fun _ _ _ _ => ⟨_, rfl⟩
end
section
variable {g : World} {P : Program} {ops : Array Oper} {Q : Exit → Act → World → Prop} {n : Nat} {L : Fm} {H H' Hc : HH} {tail : List Oper} {z : List (Bool × Oper)} {o : Oper}
structure WM (g : World) (P : Program) (ops : Array Oper) (Q : Exit → Act → World → Prop) (n : Nat) (Hc : HH) (tail : List Oper) (z : List (Bool × Oper)) (L : Fm) (H : HH) : Prop where
 run : ∀ a w, Fr n L a → on g H.flatten w → lexM P ops (on g Hc.flatten) Q tail z a w
def Qun (g : World) (P : Program) (ops : Array Oper) (Q : Exit → Act → World → Prop) (Hc : HH) (tail : List Oper) (z : List (Bool × Oper)) (H : HH) : Exit → Act → World → Prop :=
 fun _ a _ => ∀ w, on g H.flatten w → lexM P ops (on g Hc.flatten) Q tail z a w
def Qan (g : World) (P : Program) (ops : Array Oper) (Q : Exit → Act → World → Prop) (Hc : HH) (tail : List Oper) (z : List (Bool × Oper)) : Exit → Act → World → Prop
 | .normal, a, w => on g Hc.flatten w ∧ lexM P ops (on g Hc.flatten) Q tail z a w
 | _, _, _ => False
theorem W.mix {id : Nat} {l : List Oper} (ms : List Bool) (Hc : HH) {r : HH} [k : Picks Hc H r] (hm : P.follows .mixedOrders = true) (hB : mixB .any l.toArray ms = true) (h : WM g P l.toArray Q n Hc (l.drop ms.length) (ms.zip l) L H) :
  W g P (.region id l.toArray true) Q n L H := .mk fun a w ha hw =>
 have hd : on g H.flatten w.drew := hw.heap rfl ⟨rfl, rfl, rfl, Nat.le_refl _⟩
 wp_region_mix (C := on g Hc.flatten) ms hm hB ((Hsub.of_picks k).on hd) (h.run a _ ha hd)
theorem W.mixN (nn : Nat) {id : Nat} {l : List Oper} (ms : List Bool) (Hc : HH) {r : HH} [k : Picks Hc H r] (hm : P.follows .mixedOrders = true) (hB : mixN nn .any l.toArray ms = true) (h : WM g P l.toArray Q n Hc (l.drop ms.length) (ms.zip l) L H) :
  W g P (.region id l.toArray true) Q n L H := .mk fun a w ha hw =>
 have hd : on g H.flatten w.drew := hw.heap rfl ⟨rfl, rfl, rfl, Nat.le_refl _⟩
 wp_region_mixN (C := on g Hc.flatten) ms hm hB ((Hsub.of_picks k).on hd) (h.run a _ ha hd)
theorem WM.nil (h : WX false g P ops Q n tail L H) : WM g P ops Q n Hc tail [] L H := ⟨fun a w ha hw => h a w ha hw⟩
theorem WM.un {r : HH} [nv : NV P o] [k : Picks Hc H r] (h : WX true g P ops (Qun g P ops Q Hc tail z H) n [o] L Hc) : WM g P ops Q n Hc tail ((true, o) :: z) L H := ⟨fun a w ha hw => by
 have hc := (Hsub.of_picks k).on hw
 have h1 : wpQuiet P ops (on g Hc.flatten) (fun a' => ∀ w', on g Hc.flatten w' → Qun g P ops Q Hc tail z H .normal a' w') [o] a := h a w ha hc
 simp only [wpQuiet] at h1
 by_cases hwa : Region.wanted o (yielded ops a.tmps) = true
 ·rw [if_pos hwa] at h1
  obtain ⟨v, hv, hK⟩ := h1
  refine ⟨v, .inl ⟨hwa, fun w' hw' => ?_⟩, hK w hc w hw⟩
  have h2 := hv w' hw'
  unfold Oper.quietAt at h2
  cases hr : (execOp a.eval o).run P w' with
  | halt x w1 => rw [hr] at h2; exact h2.elim
  | ok nx w1 =>
   obtain ⟨u, rfl⟩ := nv.h a w' nx w1 hr
   rw [hr] at h2
   obtain ⟨rfl, rfl⟩ := h2
   rfl
 ·rw [if_neg hwa] at h1
  exact ⟨undef, .inr ⟨by simpa using hwa, rfl⟩, h1 w hc w hw⟩⟩
theorem WM.backU (h : WM g P ops Q n Hc tail z L H) : D g (Qun g P ops Q Hc tail z H) .normal n L H' := .mk fun a w ha _ w' hw' => h.run a w' ha hw'
theorem WM.an [nd : ND P o] (h : WX false g P ops (Qan g P ops Q Hc tail z) n [o] L H) : WM g P ops Q n Hc tail ((false, o) :: z) L H := ⟨fun a w ha hw => by
 have h1 : wpList P ops (Qan g P ops Q Hc tail z) [o] a w := h a w ha hw
 have hout : ¬ LetsOut (Qan g P ops Q Hc tail z) := fun ⟨_, _, h⟩ => h
 simp only [wpList] at h1
 show AnR P ops o _ a w
 by_cases hwa : Region.wanted o (yielded ops a.tmps) = true
 ·rw [if_pos hwa] at h1
  rcases h1 with h1 | ⟨_, h1⟩
  ·refine .inr ⟨hwa, ?_⟩
   unfold Oper.wp at h1
   cases hr : (execOp a.eval o).run P w with
   | halt x w1 =>
    rw [hr] at h1
    cases x <;> exact h1.elim
   | ok nx w1 =>
    rw [hr] at h1
    rcases nd.h a w nx w1 hr with ⟨v, rfl⟩ | rfl | ⟨f, args, rfl⟩
    ·exact .inl ⟨v, w1, rfl, h1⟩
    ·exact .inr (.inl ⟨w1, rfl, h1⟩)
    ·refine .inr (.inr ⟨f, args, w1, rfl, ?_⟩)
     refine Calls.mono h1 fun e w'' he => ?_
     cases e with
     | returned v => exact ⟨v, rfl, he⟩
     | panicked ch => exact he.elim
     | outgrown => exact (hout he).elim
  ·exact (hout h1).elim
 ·rw [if_neg hwa] at h1
  exact .inl ⟨by simpa using hwa, h1⟩⟩
theorem WM.back {r : HH} [k : Picks Hc H r] (h : WM g P ops Q n Hc tail z L H) : D g (Qan g P ops Q Hc tail z) .normal n L H := .mk fun a w ha hw => ⟨(Hsub.of_picks k).on hw, h.run a w ha hw⟩
end
inductive CK where
 | i | s | b
 deriving DecidableEq
def cellEq : CK → Value → Value → Option Bool
 | .i, .int k a, .int k' b => if k = k' then some (decide (a = b)) else none
 | .s, .string a, .string b => some (decide (a = b))
 | .b, .bool a, .bool b => some (decide (a = b))
 | _, _, _ => none
def cellsEq : List CK → List Value → List Value → Option Bool
 | [], [], [] => some true
 | k :: ks, x :: xs, y :: ys => match cellEq k x y, cellsEq ks xs ys with
  | some b, some c => some (b && c)
  | _, _ => none
 | _, _, _ => none
def fieldsKinds (P : Program) (rec_ : Nat → Option (List CK)) : Nat → List Field → Option (List CK)
 | _, [] => some []
 | off, fd :: r => match fd.name != "_" && fd.offset == off, rec_ fd.type with
  | true, some ks => if (P.info? fd.type).map (·.size) = some ks.length then (fieldsKinds P rec_ (off + ks.length) r).map (ks ++ ·) else none
  | _, _ => none
def eqKinds (P : Program) : Nat → Nat → Option (List CK)
 | 0, _ => none
 | f + 1, t => match P.underlying t with
  | some (.int _) => some [.i]
  | some .string => some [.s]
  | some .bool => some [.b]
  | some (.struct fs) => if P.stoodInHeld t then none else fieldsKinds P (eqKinds P f) 0 fs.toList
  | some (.array n e) => match eqKinds P f e with
   | some ks => if (P.info? e).map (·.size) = some ks.length then some (List.replicate n ks).flatten else none
   | none => none
  | _ => none
theorem beq_bytes (a b : ByteArray) : (a == b) = decide (a = b) := by
 by_cases h : a = b
 ·subst h
  rw [decide_eq_true rfl, beq_toListBytes]; simp
 ·rw [decide_eq_false h, beq_toListBytes, ByteArray.toList_eq, ByteArray.toList_eq]
  have : ¬ a.data.toList = b.data.toList := fun e => h (by cases a; cases b; simpa using e)
  simpa using this
theorem cellsEq_len : ∀ (ks : List CK) (xs ys : List Value) (b : Bool), cellsEq ks xs ys = some b → xs.length = ks.length ∧ ys.length = ks.length
 | [], [], [], _, _ => ⟨rfl, rfl⟩
 | [], _ :: _, _, _, h => by simp [cellsEq] at h
 | [], [], _ :: _, _, h => by simp [cellsEq] at h
 | _ :: _, [], _, _, h => by simp [cellsEq] at h
 | _ :: _, _ :: _, [], _, h => by simp [cellsEq] at h
 | k :: ks, x :: xs, y :: ys, b, h => by
  simp only [cellsEq] at h
  split at h
  ·rename_i b' c h1 h2
   obtain ⟨e1, e2⟩ := cellsEq_len ks xs ys c h2
   exact ⟨by simp [e1], by simp [e2]⟩
  ·cases h
theorem cellsEq_append : ∀ (ks ks' : List CK) (xs ys : List Value) (b : Bool), cellsEq (ks ++ ks') xs ys = some b →
  ∃ c d, cellsEq ks (xs.take ks.length) (ys.take ks.length) = some c ∧ cellsEq ks' (xs.drop ks.length) (ys.drop ks.length) = some d ∧ b = (c && d)
 | [], ks', xs, ys, b, h => ⟨true, b, by simp [cellsEq], by simpa using h, by simp⟩
 | k :: ks, ks', [], ys, b, h => by simp [cellsEq] at h
 | k :: ks, ks', _ :: _, [], b, h => by simp [cellsEq] at h
 | k :: ks, ks', x :: xs, y :: ys, b, h => by
  simp only [cons_append, cellsEq] at h
  split at h
  ·rename_i b' c h1 h2
   obtain ⟨c', d, e1, e2, e3⟩ := cellsEq_append ks ks' xs ys c h2
   refine ⟨b' && c', d, by simp [cellsEq, h1, e1], by simpa using e2, ?_⟩
   cases h
   rw [e3, Bool.and_assoc]
  ·cases h
theorem cellsEq_one {k : CK} {x y : Value} {b : Bool} (h : cellsEq [k] [x] [y] = some b) : cellEq k x y = some b := by
 simp only [cellsEq] at h
 cases hc : cellEq k x y with
 | none => simp [hc] at h
 | some c => simpa [hc] using h
theorem cellEq_i {x y : Value} {b : Bool} (h : cellEq .i x y = some b) : ∃ k a c, x = .int k a ∧ y = .int k c ∧ b = decide (a = c) := by
 cases x <;> cases y <;> simp only [cellEq] at h <;> first | (cases h; done) | skip
 split at h
 ·rename_i k a k' c e; subst e; cases h; exact ⟨_, _, _, rfl, rfl, rfl⟩
 ·cases h
theorem cellEq_s {x y : Value} {b : Bool} (h : cellEq .s x y = some b) : ∃ a c, x = .string a ∧ y = .string c ∧ b = decide (a = c) := by
 cases x <;> cases y <;> simp only [cellEq] at h <;> first | (cases h; done) | skip
 all_goals (cases h; exact ⟨_, _, rfl, rfl, rfl⟩)
theorem cellEq_b {x y : Value} {b : Bool} (h : cellEq .b x y = some b) : ∃ a c, x = .bool a ∧ y = .bool c ∧ b = decide (a = c) := by
 cases x <;> cases y <;> simp only [cellEq] at h <;> first | (cases h; done) | skip
 all_goals (cases h; exact ⟨_, _, rfl, rfl, rfl⟩)
section
variable {P : Program} {w : World}
theorem info_of {t k : Nat} (h : (P.info? t).map (·.size) = some k) : ∃ i, P.info? t = some i ∧ i.size = k := by
 cases hi : P.info? t with
 | none => simp [hi] at h
 | some i => exact ⟨i, rfl, by simpa [hi] using h⟩
theorem run_size {t k : Nat} (h : (P.info? t).map (·.size) = some k) : (sizeOf t).run P w = .ok k w := by
 obtain ⟨i, h1, h2⟩ := info_of h
 simp [Go.sizeOf, typeInfo, h1, h2]
def PartAt (P : Program) (t : Nat) (xs : List Value) (v : Value) : Prop := match (P.underlying t).map aggOf with
 | some true => v = .agg xs.toArray
 | some false => xs = [v]
 | none => False
theorem part_at {t off : Nat} {pre mid post : List Value} (hu : ((P.underlying t).map aggOf).isSome = true) (hs : (P.info? t).map (·.size) = some mid.length) (h1 : ((P.underlying t).map aggOf) = some false → mid.length = 1) (hp : pre.length = off) :
  ∃ v, (part t (List.toArray (pre ++ mid ++ post)) off).run P w = .ok v w ∧ PartAt P t mid v := by
 cases hd : P.underlying t with
 | none => simp [hd] at hu
 | some d =>
  have hsz := run_size (P := P) (w := w) hs
  cases ha : aggOf d with
  | true =>
   have hagg : (isAgg t).run P w = .ok true w := by cases d <;> simp [aggOf] at ha <;> simp [isAgg, underlying, hd]
   refine ⟨.agg mid.toArray, ?_, by simp [PartAt, hd, ha]⟩
   simp only [part, Sem.run_bind, hagg, Result.andThen_ok, if_true, hsz, Sem.run_pure]
   congr 2
   apply Array.toList_inj.1
   subst hp
   simp [append_assoc]
  | false =>
   have hagg : (isAgg t).run P w = .ok false w := by cases d <;> simp [aggOf] at ha <;> simp [isAgg, underlying, hd]
   have hl := h1 (by simp [hd, ha])
   match mid, hl with
   | [v], _ =>
    refine ⟨v, ?_, by simp [PartAt, hd, ha]⟩
    have hg : (List.toArray (pre ++ [v] ++ post))[off]? = some v := by
     subst hp; simp [append_assoc]
    simp only [part, Sem.run_bind, hagg, Result.andThen_ok, Bool.false_eq_true, if_false]
    rw [hg]; rfl
def EqAt (P : Program) (t f : Nat) (ks : List CK) : Prop :=
 ((P.underlying t).map aggOf).isSome = true ∧ ((P.underlying t).map aggOf = some false → ks.length = 1) ∧
 ∀ (d : Nat) (xs ys : List Value) (x y : Value) (b : Bool) (w : World), f ≤ d → PartAt P t xs x → PartAt P t ys y → cellsEq ks xs ys = some b → (Op.equalIn d t x y).run P w = .ok b w
theorem eqFields_run (rec_ : Nat → Option (List CK)) (f : Nat) (hrec : ∀ t ks, rec_ t = some ks → EqAt P t f ks) (d : Nat) (hd : f ≤ d) : ∀ (fs : List Field) (off : Nat) (ks : List CK), fieldsKinds P rec_ off fs = some ks →
  ∀ (pre pre' mid mid' : List Value) (b : Bool) (w : World), pre.length = off → pre'.length = off → cellsEq ks mid mid' = some b → (Op.eqFields d (List.toArray (pre ++ mid)) (List.toArray (pre' ++ mid')) fs).run P w = .ok b w
 | [], off, ks, h, pre, pre', mid, mid', b, w, _, _, hc => by
  cases h
  match mid, mid', hc with
  | [], [], hc => cases hc; simp [Op.eqFields]
 | fd :: r, off, ks, h, pre, pre', mid, mid', b, w, hp, hp', hc => by
  simp only [fieldsKinds] at h
  split at h
  ·rename_i ks1 hb hr
   split at h
   ·rename_i hsz
    simp only [Option.map_eq_some_iff] at h
    obtain ⟨ks2, hks2, rfl⟩ := h
    simp only [Bool.and_eq_true, bne_iff_ne, beq_iff_eq] at hb
    obtain ⟨hname, hoff⟩ := hb
    obtain ⟨c, e, h1, h2, rfl⟩ := cellsEq_append ks1 ks2 mid mid' b hc
    obtain ⟨l1, l2⟩ := cellsEq_len _ _ _ _ h1
    obtain ⟨q1, q2, q3⟩ := hrec fd.type ks1 hr
    obtain ⟨x, hx, px⟩ := part_at (P := P) (w := w) (t := fd.type) (off := fd.offset) (pre := pre) (mid := mid.take ks1.length) (post := mid.drop ks1.length) q1 (by rw [l1]; exact hsz) (fun h => by rw [l1]; exact q2 h) (by rw [hp, hoff])
    obtain ⟨y, hy, py⟩ := part_at (P := P) (w := w) (t := fd.type) (off := fd.offset) (pre := pre') (mid := mid'.take ks1.length) (post := mid'.drop ks1.length) q1 (by rw [l2]; exact hsz) (fun h => by rw [l2]; exact q2 h) (by rw [hp', hoff])
    rw [append_assoc, take_append_drop] at hx hy
    have heq := q3 d _ _ x y c w hd px py h1
    have ih := eqFields_run rec_ f hrec d hd r (off + ks1.length) ks2 hks2 (pre ++ mid.take ks1.length) (pre' ++ mid'.take ks1.length) (mid.drop ks1.length) (mid'.drop ks1.length) e w (by simp only [length_append, l1, hp]) (by simp only [length_append, l2, hp']) h2
    rw [append_assoc, take_append_drop, append_assoc, take_append_drop] at ih
    simp only [Op.eqFields]
    rw [if_pos hname]
    simp only [Sem.run_bind, hx, hy, heq, Result.andThen_ok]
    cases c
    ·simp
    ·simpa using ih
   ·cases h
  ·cases h
theorem eqItems_run {e f d : Nat} {ks : List CK} (h : EqAt P e f ks) (hsz : (P.info? e).map (·.size) = some ks.length) (hd : f ≤ d) : ∀ (n k : Nat) (pre pre' mid mid' : List Value) (b : Bool) (w : World), pre.length = k * ks.length → pre'.length = k * ks.length →
  cellsEq (List.replicate n ks).flatten mid mid' = some b → (Op.eqItems d e ks.length (List.toArray (pre ++ mid)) (List.toArray (pre' ++ mid')) (List.range' k n)).run P w = .ok b w
 | 0, k, pre, pre', mid, mid', b, w, _, _, hc => by
  match mid, mid', hc with
  | [], [], hc => cases hc; simp [Op.eqItems]
 | n + 1, k, pre, pre', mid, mid', b, w, hp, hp', hc => by
  rw [replicate_succ, flatten_cons] at hc
  obtain ⟨c, c2, h1, h2, rfl⟩ := cellsEq_append ks _ mid mid' b hc
  obtain ⟨l1, l2⟩ := cellsEq_len _ _ _ _ h1
  obtain ⟨q1, q2, q3⟩ := h
  obtain ⟨x, hx, px⟩ := part_at (P := P) (w := w) (t := e) (off := k * ks.length) (pre := pre) (mid := mid.take ks.length) (post := mid.drop ks.length) q1 (by rw [l1]; exact hsz) (fun h => by rw [l1]; exact q2 h) hp
  obtain ⟨y, hy, py⟩ := part_at (P := P) (w := w) (t := e) (off := k * ks.length) (pre := pre') (mid := mid'.take ks.length) (post := mid'.drop ks.length) q1 (by rw [l2]; exact hsz) (fun h => by rw [l2]; exact q2 h) hp'
  rw [append_assoc, take_append_drop] at hx hy
  have heq := q3 d _ _ x y c w hd px py h1
  have ih := eqItems_run ⟨q1, q2, q3⟩ hsz hd n (k + 1) (pre ++ mid.take ks.length) (pre' ++ mid'.take ks.length) (mid.drop ks.length) (mid'.drop ks.length) c2 w (by simp only [length_append, l1, hp, Nat.succ_mul]) (by simp only [length_append, l2, hp', Nat.succ_mul]) h2
  rw [append_assoc, take_append_drop, append_assoc, take_append_drop] at ih
  simp only [List.range'_succ, Op.eqItems, Sem.run_bind, hx, hy, heq, Result.andThen_ok]
  cases c
  ·simp
  ·simpa using ih
theorem eqAt_of : ∀ (f t : Nat) (ks : List CK), eqKinds P f t = some ks → EqAt P t f ks
 | 0, _, _, h => by cases h
 | f + 1, t, ks, h => by
  simp only [eqKinds] at h
  split at h
  ·rename_i k hu
   cases h
   refine ⟨by simp [hu], fun _ => rfl, fun d xs ys x y b w hd px py hc => ?_⟩
   simp only [PartAt, hu, Option.map_some, aggOf] at px py
   subst px; subst py
   obtain ⟨m, rfl⟩ : ∃ m, d = m + 1 := ⟨d - 1, by omega⟩
   obtain ⟨k', a, c, rfl, rfl, rfl⟩ := cellEq_i (cellsEq_one hc)
   rw [run_equalIn_int w m t k' k _ _ hu]
   congr 1
  ·rename_i hu
   cases h
   refine ⟨by simp [hu], fun _ => rfl, fun d xs ys x y b w hd px py hc => ?_⟩
   simp only [PartAt, hu, Option.map_some, aggOf] at px py
   subst px; subst py
   obtain ⟨m, rfl⟩ : ∃ m, d = m + 1 := ⟨d - 1, by omega⟩
   obtain ⟨a, c, rfl, rfl, rfl⟩ := cellEq_s (cellsEq_one hc)
   rw [run_equalIn_string w m t _ _ hu, ← beq_toListBytes, beq_bytes]
  ·rename_i hu
   cases h
   refine ⟨by simp [hu], fun _ => rfl, fun d xs ys x y b w hd px py hc => ?_⟩
   simp only [PartAt, hu, Option.map_some, aggOf] at px py
   subst px; subst py
   obtain ⟨m, rfl⟩ : ∃ m, d = m + 1 := ⟨d - 1, by omega⟩
   obtain ⟨b1, b2, rfl, rfl, rfl⟩ := cellEq_b (cellsEq_one hc)
   rw [run_equalIn_bool' w m t _ _ hu]
   cases b1 <;> cases b2 <;> rfl
  ·rename_i fs hu
   split at h
   ·cases h
   ·rename_i hst
    refine ⟨by simp [hu], fun h => by simp [hu, aggOf] at h, fun d xs ys x y b w hd px py hc => ?_⟩
    simp only [PartAt, hu, Option.map_some, aggOf] at px py
    subst px; subst py
    obtain ⟨m, rfl⟩ : ∃ m, d = m + 1 := ⟨d - 1, by omega⟩
    have hfs : P.fieldsOf t = fs := by simp [Program.fieldsOf, hu]
    rw [run_equalIn_struct w m t _ _ (by rw [hfs]; exact hu) (by simpa using hst), hfs]
    have := eqFields_run (P := P) (eqKinds P f) f (fun t ks h => eqAt_of f t ks h) m (by omega) fs.toList 0 ks h [] [] xs ys b w rfl rfl hc
    simpa using this
  ·rename_i n e hu
   split at h
   ·rename_i ks1 hk
    split at h
    ·rename_i hsz
     cases h
     refine ⟨by simp [hu], fun h => by simp [hu, aggOf] at h, fun d xs ys x y b w hd px py hc => ?_⟩
     simp only [PartAt, hu, Option.map_some, aggOf] at px py
     subst px; subst py
     obtain ⟨m, rfl⟩ : ∃ m, d = m + 1 := ⟨d - 1, by omega⟩
     obtain ⟨i, hi, hi2⟩ := info_of hsz
     have hcs : P.cellsOf e = ks1.length := by simp [Program.cellsOf, hi, hi2]
     rw [run_equalIn_array (w := w) m _ _ hu hi, hcs, range_eq_range']
     have := eqItems_run (P := P) (eqAt_of f e ks1 hk) hsz (d := m) (by omega) n 0 [] [] xs ys b w (by simp) (by simp) hc
     simpa using this
    ·cases h
   ·cases h
  ·cases h
end
class TE (P : Program) (t : Nat) (ks : outParam (List CK)) : Prop where
 h : eqKinds P 20 t = some ks
 g : P.eqGuardType P.depth t = false
 a : (P.underlying t).map aggOf = some true
section
variable {g : World} {P : Program} {ops : Array Oper} {Q : Exit → Act → World → Prop} {n : Nat} {rest : List Oper} {L : Fm} {H : HH} {q : Bool}
variable {d : Nat} {ty : TypeId} {pos : String} {af : Array Edge} {v : Value}
theorem WX.eqlA {x y : Operand} {t t' : Nat} {ks : List CK} {xs ys : List Value} {b : Bool} (hx : ev L x = some (.agg xs.toArray)) (hy : ev L y = some (.agg ys.toArray)) [te : TE P t ks] (hc : cellsEq ks xs ys = some b) (hd : Nat.blt d n = true)
  (k : WX q g P ops Q n rest ((d, .bool b) :: L) H) : WX q g P ops Q n (⟨some d, .binOp .eql t x y t', ty, pos, af, none⟩ :: rest) L H :=
 WX.val (fun a ha w _ => run_bin (vx := .agg xs.toArray) (vy := .agg ys.toArray) (ha.ev hx) (ha.ev hy) (run_eqGuard_agg w _ t x y _ _ te.g) (by
  have := (eqAt_of 20 t ks te.h).2.2 10000 xs ys (.agg xs.toArray) (.agg ys.toArray) b w (by omega) (by simp [PartAt, te.a]) (by simp [PartAt, te.a]) hc
  rw [run_eql_struct, this]; rfl)) hd k
theorem WX.neqA {x y : Operand} {t t' : Nat} {ks : List CK} {xs ys : List Value} {b : Bool} (hx : ev L x = some (.agg xs.toArray)) (hy : ev L y = some (.agg ys.toArray)) [te : TE P t ks] (hc : cellsEq ks xs ys = some b) (hd : Nat.blt d n = true)
  (k : WX q g P ops Q n rest ((d, .bool (!b)) :: L) H) : WX q g P ops Q n (⟨some d, .binOp .neq t x y t', ty, pos, af, none⟩ :: rest) L H :=
 WX.val (fun a ha w _ => run_bin (vx := .agg xs.toArray) (vy := .agg ys.toArray) (ha.ev hx) (ha.ev hy) (run_eqGuard_agg w _ t x y _ _ te.g) (by
  have := (eqAt_of 20 t ks te.h).2.2 10000 xs ys (.agg xs.toArray) (.agg ys.toArray) b w (by omega) (by simp [PartAt, te.a]) (by simp [PartAt, te.a]) hc
  rw [run_neq_struct, this]; rfl)) hd k
theorem WX.idxP {x i : Operand} {t e m len b off : Nat} {j : Int} {ag : Bool} {kd : IntKind} (hx : ev L x = some (.pointer (some ⟨b, off, none⟩))) (hi : ev L i = some (.int kd j)) [ht : TU P t (.array len e)] [hl : TL P e m ag] (h0 : 0 ≤ j ∧ j < len)
  (hd : Nat.blt d n = true) (kk : WX q g P ops Q n rest ((d, .pointer (some ⟨b, off + j.toNat * m, none⟩)) :: L) H) : WX q g P ops Q n (⟨some d, .indexAddr t x i, ty, pos, af, none⟩ :: rest) L H :=
 WX.val (fun a ha w hw => by
  simp [execOp, ha.ev hx, ha.ev hi, Instr.indexAt, asIntOf, ht.run, hl.sizeOf, Instr.sureAddr, h0.1, h0.2, add_none]) hd kk
theorem setAt_whole {zs vs : List Value} (h : zs.length = vs.length) : setAt zs 0 vs = vs := by simpa using setAt_all vs zs 0 [] rfl h
theorem WX.gu {op : Op} {j t : Nat} {want : Bool} (hj : (ops[j]?).bind (·.dst) = some t) (ht : lk L t = some undef) (hd : Nat.blt d n = true) (k : WX q g P ops Q n rest ((d, undef) :: L) H) :
  WX q g P ops Q n (⟨some d, op, ty, pos, af, some (j, want)⟩ :: rest) L H := by
 refine .mk fun a w ha hw => ?_
 have hd' : d < n := Nat.le_of_ble_eq_true hd
 have hy : (yielded ops a.tmps j == some want) = false := by simp [yielded, hj, ha.get _ _ ht, undef]
 have := k (a.put (some d) undef) w (ha.put hd' undef) hw
 unfold wxr at this ⊢
 cases q
 ·simp only [wpList, Region.wanted, hy, Bool.false_eq_true, if_false] at this ⊢
  exact this
 ·refine wpQuiet_step fun K hK => ?_
  simp only [Region.wanted, hy, Bool.false_eq_true, if_false]
  exact hK _ this
theorem WX.loadEW {α : Type} [Enc α] {x : Operand} {t ms k : Nat} {xs : List α} {y : α} {h : Hp} {K : Hp → HH} (hx : ev L x = some (eptr v k ms 0)) (hs : Rs xs v h) (hk : xs[k]? = some y) (hms : ms = Enc.sz α) [ht : TL P t ms true] [hw : Swp h H K]
  (hd : Nat.blt d n = true) (kk : WX q g P ops Q n rest ((d, .agg (Enc.enc y).toArray) :: L) H) : WX q g P ops Q n (⟨some d, .load t x, ty, pos, af, none⟩ :: rest) L H :=
 WX.loadEA hx hs hk hms (by rw [drop_zero, hms, ← Enc.len y, take_length]) (by rw [hms, Enc.len]) hd kk
-- results in cells: the one that comes first, an aggregate; a temporary behind it
end
end Go.Sl

set_option maxRecDepth 100000
namespace Go.Proofs
open Go.Sl Go.Proofs.Tryz
theorem Tryz.mix : prog.follows .mixedOrders = true := by kernel_rfl
instance Tryz.tl3 : TL prog 3 1 false := ⟨by kernel_rfl, by kernel_rfl⟩
instance Tryz.tb3 : TB prog 3 8 := ⟨by kernel_rfl⟩
instance Tryz.tu3 : TU prog 3 (.int .i64) := ⟨by kernel_rfl⟩
instance Tryz.tz3 : TZ prog 3 [.int .i64 (0)] := TZ.of (by kernel_rfl)
instance Tryz.tl4 : TL prog 4 1 false := ⟨by kernel_rfl, by kernel_rfl⟩
instance Tryz.tu4 : TU prog 4 .bool := ⟨by kernel_rfl⟩
instance Tryz.tl5 : TL prog 5 1 false := ⟨by kernel_rfl, by kernel_rfl⟩
instance Tryz.tb5 : TB prog 5 1 := ⟨by kernel_rfl⟩
instance Tryz.tu5 : TU prog 5 (.int .u8) := ⟨by kernel_rfl⟩
instance Tryz.tz5 : TZ prog 5 [.int .u8 (0)] := TZ.of (by kernel_rfl)
instance Tryz.tl9 : TL prog 9 1 false := ⟨by kernel_rfl, by kernel_rfl⟩
instance Tryz.tu9 : TU prog 9 .string := ⟨by kernel_rfl⟩
instance Tryz.tl25 : TL prog 25 1 false := ⟨by kernel_rfl, by kernel_rfl⟩
instance Tryz.tb25 : TB prog 25 8 := ⟨by kernel_rfl⟩
instance Tryz.tu25 : TU prog 25 (.pointer 52) := ⟨by kernel_rfl⟩
instance Tryz.tz25 : TZ prog 25 [.pointer none] := TZ.of (by kernel_rfl)
instance Tryz.tl31 : TL prog 31 2 true := ⟨by kernel_rfl, by kernel_rfl⟩
instance Tryz.tb31 : TB prog 31 16 := ⟨by kernel_rfl⟩
instance Tryz.tz31 : TZ prog 31 [.int .i64 (0), .int .i64 (0)] := TZ.of (by kernel_rfl)
instance Tryz.te31 : TE prog 31 [.i, .i] := ⟨by kernel_rfl, by kernel_rfl, by kernel_rfl⟩
instance Tryz.tf31_0 : TF prog 31 0 0 := TF.of (ft := 3) (k := 0) (by kernel_rfl)
instance Tryz.tf31_1 : TF prog 31 1 1 := TF.of (ft := 3) (k := 0) (by kernel_rfl)
instance Tryz.tp31 : TP prog 31 [(0, 1), (1, 1)] := TP.of (by kernel_rfl)
instance Tryz.tu32 : TU prog 32 (.array 4 31) := ⟨by kernel_rfl⟩
instance Tryz.tl34 : TL prog 34 13 true := ⟨by kernel_rfl, by kernel_rfl⟩
instance Tryz.tb34 : TB prog 34 104 := ⟨by kernel_rfl⟩
instance Tryz.tz34 : TZ prog 34 [.int .i64 (0), .int .i64 (0), .int .i64 (0), .int .i64 (0), .int .i64 (0), .int .i64 (0), .int .i64 (0), .int .i64 (0), .int .i64 (0), .int .i64 (0), .bool false, .int .i64 (0), .int .i64 (0)] := TZ.of (by kernel_rfl)
instance Tryz.tf34_0 : TF prog 34 0 0 := TF.of (ft := 3) (k := 0) (by kernel_rfl)
instance Tryz.tg34_0 : TFt prog 34 0 0 3 := TFt.of (k := 1) (by kernel_rfl)
instance Tryz.tf34_1 : TF prog 34 1 1 := TF.of (ft := 3) (k := 0) (by kernel_rfl)
instance Tryz.tf34_2 : TF prog 34 2 2 := TF.of (ft := 32) (k := 7) (by kernel_rfl)
instance Tryz.tf34_3 : TF prog 34 3 10 := TF.of (ft := 4) (k := 0) (by kernel_rfl)
instance Tryz.tf34_4 : TF prog 34 4 11 := TF.of (ft := 31) (k := 1) (by kernel_rfl)
instance Tryz.tp34 : TP prog 34 [(0, 1), (1, 1), (2, 8), (10, 1), (11, 2)] := TP.of (by kernel_rfl)
instance Tryz.tl35 : TL prog 35 3 true := ⟨by kernel_rfl, by kernel_rfl⟩
instance Tryz.tu35 : TU prog 35 (.array 3 3) := ⟨by kernel_rfl⟩
instance Tryz.tz35 : TZ prog 35 [.int .i64 (0), .int .i64 (0), .int .i64 (0)] := TZ.of (by kernel_rfl)
instance Tryz.tl37 : TL prog 37 9 true := ⟨by kernel_rfl, by kernel_rfl⟩
instance Tryz.tu37 : TU prog 37 (.array 3 35) := ⟨by kernel_rfl⟩
instance Tryz.tz37 : TZ prog 37 [.int .i64 (0), .int .i64 (0), .int .i64 (0), .int .i64 (0), .int .i64 (0), .int .i64 (0), .int .i64 (0), .int .i64 (0), .int .i64 (0)] := TZ.of (by kernel_rfl)
instance Tryz.tl39 : TL prog 39 3 true := ⟨by kernel_rfl, by kernel_rfl⟩
instance Tryz.tz39 : TZ prog 39 [.int .i64 (0), .int .i64 (0), .int .i64 (0)] := TZ.of (by kernel_rfl)
instance Tryz.tf39_0 : TF prog 39 0 0 := TF.of (ft := 3) (k := 0) (by kernel_rfl)
instance Tryz.tf39_1 : TF prog 39 1 1 := TF.of (ft := 3) (k := 0) (by kernel_rfl)
instance Tryz.tf39_2 : TF prog 39 2 2 := TF.of (ft := 3) (k := 0) (by kernel_rfl)
instance Tryz.tp39 : TP prog 39 [(0, 1), (1, 1), (2, 1)] := TP.of (by kernel_rfl)
instance Tryz.tl41 : TL prog 41 3 true := ⟨by kernel_rfl, by kernel_rfl⟩
instance Tryz.tz41 : TZ prog 41 [.int .i64 (0), .int .i64 (0), .int .i64 (0)] := TZ.of (by kernel_rfl)
instance Tryz.tf41_0 : TF prog 41 0 0 := TF.of (ft := 3) (k := 0) (by kernel_rfl)
instance Tryz.tf41_1 : TF prog 41 1 1 := TF.of (ft := 3) (k := 0) (by kernel_rfl)
instance Tryz.tf41_2 : TF prog 41 2 2 := TF.of (ft := 3) (k := 0) (by kernel_rfl)
instance Tryz.tp41 : TP prog 41 [(0, 1), (1, 1), (2, 1)] := TP.of (by kernel_rfl)
instance Tryz.tl43 : TL prog 43 20 true := ⟨by kernel_rfl, by kernel_rfl⟩
instance Tryz.tb43 : TB prog 43 176 := ⟨by kernel_rfl⟩
instance Tryz.tz43 : TZ prog 43 [.int .i64 (0), .int .i64 (0), .int .i64 (0), .int .i64 (0), .int .i64 (0), .int .i64 (0), .string ByteArray.empty, .string ByteArray.empty, .bool false, .int .i64 (0), .int .i64 (0), .int .i64 (0), .int .i64 (0), .int .i64 (0), .int .i64 (0), .int .i64 (0), .int .i64 (0), .int .i64 (0), .int .i64 (0), .int .i64 (0)] := TZ.of (by kernel_rfl)
instance Tryz.te43 : TE prog 43 [.i, .i, .i, .i, .i, .i, .s, .s, .b, .i, .i, .i, .i, .i, .i, .i, .i, .i, .i, .i] := ⟨by kernel_rfl, by kernel_rfl, by kernel_rfl⟩
instance Tryz.tf43_0 : TF prog 43 0 0 := TF.of (ft := 39) (k := 2) (by kernel_rfl)
instance Tryz.tf43_1 : TF prog 43 1 3 := TF.of (ft := 41) (k := 2) (by kernel_rfl)
instance Tryz.tf43_2 : TF prog 43 2 6 := TF.of (ft := 9) (k := 0) (by kernel_rfl)
instance Tryz.tf43_3 : TF prog 43 3 7 := TF.of (ft := 9) (k := 0) (by kernel_rfl)
instance Tryz.tf43_4 : TF prog 43 4 8 := TF.of (ft := 4) (k := 0) (by kernel_rfl)
instance Tryz.tf43_5 : TF prog 43 5 9 := TF.of (ft := 37) (k := 8) (by kernel_rfl)
instance Tryz.tf43_6 : TF prog 43 6 18 := TF.of (ft := 3) (k := 0) (by kernel_rfl)
instance Tryz.tf43_7 : TF prog 43 7 19 := TF.of (ft := 3) (k := 0) (by kernel_rfl)
instance Tryz.tp43 : TP prog 43 [(0, 3), (3, 3), (6, 1), (7, 1), (8, 1), (9, 9), (18, 1), (19, 1)] := TP.of (by kernel_rfl)
instance Tryz.tl46 : TL prog 46 1 false := ⟨by kernel_rfl, by kernel_rfl⟩
instance Tryz.tu46 : TU prog 46 (.slice 43) := ⟨by kernel_rfl⟩
instance Tryz.tl48 : TL prog 48 1 false := ⟨by kernel_rfl, by kernel_rfl⟩
instance Tryz.tu48 : TU prog 48 (.pointer 112) := ⟨by kernel_rfl⟩
instance Tryz.tl49 : TL prog 49 1 false := ⟨by kernel_rfl, by kernel_rfl⟩
instance Tryz.tl50 : TL prog 50 1 false := ⟨by kernel_rfl, by kernel_rfl⟩
instance Tryz.tz52 : TZ prog 52 [.pointer none, .int .i64 (0), .int .i64 (0), .int .i64 (0), .pointer none, .pointer none, .bool false] := TZ.of (by kernel_rfl)
instance Tryz.tf52_0 : TF prog 52 0 0 := TF.of (ft := 48) (k := 0) (by kernel_rfl)
instance Tryz.tf52_1 : TF prog 52 1 1 := TF.of (ft := 3) (k := 0) (by kernel_rfl)
instance Tryz.tf52_2 : TF prog 52 2 2 := TF.of (ft := 3) (k := 0) (by kernel_rfl)
instance Tryz.tf52_3 : TF prog 52 3 3 := TF.of (ft := 3) (k := 0) (by kernel_rfl)
instance Tryz.tf52_4 : TF prog 52 4 4 := TF.of (ft := 49) (k := 0) (by kernel_rfl)
instance Tryz.tf52_5 : TF prog 52 5 5 := TF.of (ft := 50) (k := 0) (by kernel_rfl)
instance Tryz.tf52_6 : TF prog 52 6 6 := TF.of (ft := 4) (k := 0) (by kernel_rfl)
instance Tryz.tp52 : TP prog 52 [(0, 1), (1, 1), (2, 1), (3, 1), (4, 1), (5, 1), (6, 1)] := TP.of (by kernel_rfl)
instance Tryz.tu63 : TU prog 63 (.slice 68) := ⟨by kernel_rfl⟩
instance Tryz.tl68 : TL prog 68 7 true := ⟨by kernel_rfl, by kernel_rfl⟩
instance Tryz.tz68 : TZ prog 68 [.int .i64 (0), .int .i64 (0), .int .i64 (0), .int .i64 (0), .bool false, .string ByteArray.empty, .string ByteArray.empty] := TZ.of (by kernel_rfl)
instance Tryz.tf68_0 : TF prog 68 0 0 := TF.of (ft := 3) (k := 0) (by kernel_rfl)
instance Tryz.tg68_0 : TFt prog 68 0 0 3 := TFt.of (k := 1) (by kernel_rfl)
instance Tryz.tf68_1 : TF prog 68 1 1 := TF.of (ft := 3) (k := 0) (by kernel_rfl)
instance Tryz.tg68_1 : TFt prog 68 1 1 3 := TFt.of (k := 1) (by kernel_rfl)
instance Tryz.tf68_2 : TF prog 68 2 2 := TF.of (ft := 3) (k := 0) (by kernel_rfl)
instance Tryz.tg68_2 : TFt prog 68 2 2 3 := TFt.of (k := 1) (by kernel_rfl)
instance Tryz.tf68_3 : TF prog 68 3 3 := TF.of (ft := 3) (k := 0) (by kernel_rfl)
instance Tryz.tg68_3 : TFt prog 68 3 3 3 := TFt.of (k := 1) (by kernel_rfl)
instance Tryz.tf68_4 : TF prog 68 4 4 := TF.of (ft := 4) (k := 0) (by kernel_rfl)
instance Tryz.tg68_4 : TFt prog 68 4 4 4 := TFt.of (k := 1) (by kernel_rfl)
instance Tryz.tf68_5 : TF prog 68 5 5 := TF.of (ft := 9) (k := 0) (by kernel_rfl)
instance Tryz.tg68_5 : TFt prog 68 5 5 9 := TFt.of (k := 1) (by kernel_rfl)
instance Tryz.tf68_6 : TF prog 68 6 6 := TF.of (ft := 9) (k := 0) (by kernel_rfl)
instance Tryz.tg68_6 : TFt prog 68 6 6 9 := TFt.of (k := 1) (by kernel_rfl)
instance Tryz.tp68 : TP prog 68 [(0, 1), (1, 1), (2, 1), (3, 1), (4, 1), (5, 1), (6, 1)] := TP.of (by kernel_rfl)
instance Tryz.tl70 : TL prog 70 1 false := ⟨by kernel_rfl, by kernel_rfl⟩
instance Tryz.tu70 : TU prog 70 (.slice 25) := ⟨by kernel_rfl⟩
instance Tryz.tl71 : TL prog 71 1 false := ⟨by kernel_rfl, by kernel_rfl⟩
instance Tryz.tu71 : TU prog 71 (.slice 34) := ⟨by kernel_rfl⟩
instance Tryz.tl72 : TL prog 72 1 false := ⟨by kernel_rfl, by kernel_rfl⟩
instance Tryz.tu72 : TU prog 72 (.slice 129) := ⟨by kernel_rfl⟩
instance Tryz.tz74 : TZ prog 74 [.slice none 0 0, .slice none 0 0, .slice none 0 0, .slice none 0 0] := TZ.of (by kernel_rfl)
instance Tryz.tf74_0 : TF prog 74 0 0 := TF.of (ft := 70) (k := 0) (by kernel_rfl)
instance Tryz.tf74_1 : TF prog 74 1 1 := TF.of (ft := 71) (k := 0) (by kernel_rfl)
instance Tryz.tf74_2 : TF prog 74 2 2 := TF.of (ft := 72) (k := 0) (by kernel_rfl)
instance Tryz.tf74_3 : TF prog 74 3 3 := TF.of (ft := 46) (k := 0) (by kernel_rfl)
instance Tryz.tp74 : TP prog 74 [(0, 1), (1, 1), (2, 1), (3, 1)] := TP.of (by kernel_rfl)
instance Tryz.tl79 : TL prog 79 1 false := ⟨by kernel_rfl, by kernel_rfl⟩
instance Tryz.tu79 : TU prog 79 (.slice 3) := ⟨by kernel_rfl⟩
instance Tryz.tu85 : TU prog 85 (.slice 108) := ⟨by kernel_rfl⟩
instance Tryz.tl108 : TL prog 108 35 true := ⟨by kernel_rfl, by kernel_rfl⟩
instance Tryz.tb108 : TB prog 108 296 := ⟨by kernel_rfl⟩
instance Tryz.tz108 : TZ prog 108 [.int .i64 (0), .int .i64 (0), .int .i64 (0), .int .i64 (0), .int .i64 (0), .int .i64 (0), .int .i64 (0), .string ByteArray.empty, .string ByteArray.empty, .bool false, .int .i64 (0), .int .i64 (0), .int .i64 (0), .int .i64 (0), .int .i64 (0), .int .i64 (0), .int .i64 (0), .int .i64 (0), .int .i64 (0), .int .i64 (0), .int .i64 (0), .int .i64 (0), .int .i64 (0), .int .i64 (0), .int .i64 (0), .int .i64 (0), .int .i64 (0), .int .i64 (0), .int .i64 (0), .int .i64 (0), .int .i64 (0), .bool false, .int .i64 (0), .int .i64 (0), .int .i64 (0)] := TZ.of (by kernel_rfl)
instance Tryz.te108 : TE prog 108 [.i, .i, .i, .i, .i, .i, .i, .s, .s, .b, .i, .i, .i, .i, .i, .i, .i, .i, .i, .i, .i, .i, .i, .i, .i, .i, .i, .i, .i, .i, .i, .b, .i, .i, .i] := ⟨by kernel_rfl, by kernel_rfl, by kernel_rfl⟩
instance Tryz.tf108_0 : TF prog 108 0 0 := TF.of (ft := 3) (k := 0) (by kernel_rfl)
instance Tryz.tf108_1 : TF prog 108 1 1 := TF.of (ft := 43) (k := 19) (by kernel_rfl)
instance Tryz.tf108_2 : TF prog 108 2 21 := TF.of (ft := 34) (k := 12) (by kernel_rfl)
instance Tryz.tf108_3 : TF prog 108 3 34 := TF.of (ft := 3) (k := 0) (by kernel_rfl)
instance Tryz.tp108 : TP prog 108 [(0, 1), (1, 20), (21, 13), (34, 1)] := TP.of (by kernel_rfl)
instance Tryz.tz112 : TZ prog 112 [.int .i64 (0), .int .i64 (0), .int .i64 (0), .int .i64 (0), .int .i64 (0), .int .i64 (0), .int .i64 (0), .int .i64 (0), .int .i64 (0), .int .i64 (0), .int .i64 (0), .int .i64 (0), .int .i64 (0), .bool false, .int .i64 (0), .int .i64 (0), .int .i64 (0), .int .i64 (0), .slice none 0 0, .int .i64 (0), .int .i64 (0), .int .i64 (0), .int .i64 (0), .bool false] := TZ.of (by kernel_rfl)
instance Tryz.tf112_0 : TF prog 112 0 0 := TF.of (ft := 3) (k := 0) (by kernel_rfl)
instance Tryz.tf112_1 : TF prog 112 1 1 := TF.of (ft := 3) (k := 0) (by kernel_rfl)
instance Tryz.tf112_2 : TF prog 112 2 2 := TF.of (ft := 3) (k := 0) (by kernel_rfl)
instance Tryz.tf112_3 : TF prog 112 3 3 := TF.of (ft := 34) (k := 12) (by kernel_rfl)
instance Tryz.tf112_4 : TF prog 112 4 16 := TF.of (ft := 3) (k := 0) (by kernel_rfl)
instance Tryz.tf112_5 : TF prog 112 5 17 := TF.of (ft := 3) (k := 0) (by kernel_rfl)
instance Tryz.tf112_6 : TF prog 112 6 18 := TF.of (ft := 46) (k := 0) (by kernel_rfl)
instance Tryz.tf112_7 : TF prog 112 7 19 := TF.of (ft := 3) (k := 0) (by kernel_rfl)
instance Tryz.tf112_8 : TF prog 112 8 20 := TF.of (ft := 3) (k := 0) (by kernel_rfl)
instance Tryz.tf112_9 : TF prog 112 9 21 := TF.of (ft := 3) (k := 0) (by kernel_rfl)
instance Tryz.tf112_10 : TF prog 112 10 22 := TF.of (ft := 3) (k := 0) (by kernel_rfl)
instance Tryz.tf112_11 : TF prog 112 11 23 := TF.of (ft := 4) (k := 0) (by kernel_rfl)
instance Tryz.tp112 : TP prog 112 [(0, 1), (1, 1), (2, 1), (3, 13), (16, 1), (17, 1), (18, 1), (19, 1), (20, 1), (21, 1), (22, 1), (23, 1)] := TP.of (by kernel_rfl)
instance Tryz.tu122 : TU prog 122 (.slice 31) := ⟨by kernel_rfl⟩
instance Tryz.tl129 : TL prog 129 27 true := ⟨by kernel_rfl, by kernel_rfl⟩
instance Tryz.tb129 : TB prog 129 232 := ⟨by kernel_rfl⟩
instance Tryz.tz129 : TZ prog 129 [.int .i64 (0), .int .i64 (0), .int .i64 (0), .int .i64 (0), .bool false, .int .i64 (0), .int .i64 (0), .int .i64 (0), .int .i64 (0), .int .i64 (0), .int .i64 (0), .string ByteArray.empty, .string ByteArray.empty, .bool false, .int .i64 (0), .int .i64 (0), .int .i64 (0), .int .i64 (0), .int .i64 (0), .int .i64 (0), .int .i64 (0), .int .i64 (0), .int .i64 (0), .int .i64 (0), .int .i64 (0), .int .i64 (0), .int .i64 (0)] := TZ.of (by kernel_rfl)
instance Tryz.tf129_0 : TF prog 129 0 0 := TF.of (ft := 3) (k := 0) (by kernel_rfl)
instance Tryz.tf129_1 : TF prog 129 1 1 := TF.of (ft := 3) (k := 0) (by kernel_rfl)
instance Tryz.tf129_2 : TF prog 129 2 2 := TF.of (ft := 3) (k := 0) (by kernel_rfl)
instance Tryz.tf129_3 : TF prog 129 3 3 := TF.of (ft := 3) (k := 0) (by kernel_rfl)
instance Tryz.tf129_4 : TF prog 129 4 4 := TF.of (ft := 4) (k := 0) (by kernel_rfl)
instance Tryz.tf129_5 : TF prog 129 5 5 := TF.of (ft := 43) (k := 19) (by kernel_rfl)
instance Tryz.tf129_6 : TF prog 129 6 25 := TF.of (ft := 3) (k := 0) (by kernel_rfl)
instance Tryz.tf129_7 : TF prog 129 7 26 := TF.of (ft := 3) (k := 0) (by kernel_rfl)
instance Tryz.tp129 : TP prog 129 [(0, 1), (1, 1), (2, 1), (3, 1), (4, 1), (5, 20), (25, 1), (26, 1)] := TP.of (by kernel_rfl)
instance Tryz.tl130 : TL prog 130 1 false := ⟨by kernel_rfl, by kernel_rfl⟩
instance Tryz.tu130 : TU prog 130 (.map 3 158) := ⟨by kernel_rfl⟩
instance Tryz.tl131 : TL prog 131 1 false := ⟨by kernel_rfl, by kernel_rfl⟩
instance Tryz.tu131 : TU prog 131 (.slice 155) := ⟨by kernel_rfl⟩
instance Tryz.tz133 : TZ prog 133 [.map none, .slice none 0 0] := TZ.of (by kernel_rfl)
instance Tryz.tf133_0 : TF prog 133 0 0 := TF.of (ft := 130) (k := 0) (by kernel_rfl)
instance Tryz.tf133_1 : TF prog 133 1 1 := TF.of (ft := 131) (k := 0) (by kernel_rfl)
instance Tryz.tp133 : TP prog 133 [(0, 1), (1, 1)] := TP.of (by kernel_rfl)
instance Tryz.tz135 : TZ prog 135 [.pointer none, .int .i64 (0), .int .i64 (0)] := TZ.of (by kernel_rfl)
instance Tryz.tf135_0 : TF prog 135 0 0 := TF.of (ft := 49) (k := 0) (by kernel_rfl)
instance Tryz.tf135_1 : TF prog 135 1 1 := TF.of (ft := 3) (k := 0) (by kernel_rfl)
instance Tryz.tf135_2 : TF prog 135 2 2 := TF.of (ft := 3) (k := 0) (by kernel_rfl)
instance Tryz.tp135 : TP prog 135 [(0, 1), (1, 1), (2, 1)] := TP.of (by kernel_rfl)
instance Tryz.tl137 : TL prog 137 1 false := ⟨by kernel_rfl, by kernel_rfl⟩
instance Tryz.tu137 : TU prog 137 (.slice 5) := ⟨by kernel_rfl⟩
instance Tryz.tz137 : TZ prog 137 [.slice none 0 0] := TZ.of (by kernel_rfl)
instance Tryz.tl144 : TL prog 144 1 false := ⟨by kernel_rfl, by kernel_rfl⟩
instance Tryz.tu144 : TU prog 144 (.slice 189) := ⟨by kernel_rfl⟩
instance Tryz.tf146_0 : TF prog 146 0 0 := TF.of (ft := 144) (k := 0) (by kernel_rfl)
instance Tryz.tz148 : TZ prog 148 [.pointer none, .int .i64 (0), .int .i64 (0)] := TZ.of (by kernel_rfl)
instance Tryz.tf148_1 : TF prog 148 1 1 := TF.of (ft := 3) (k := 0) (by kernel_rfl)
instance Tryz.tf148_2 : TF prog 148 2 2 := TF.of (ft := 3) (k := 0) (by kernel_rfl)
instance Tryz.tp148 : TP prog 148 [(0, 1), (1, 1), (2, 1)] := TP.of (by kernel_rfl)
instance Tryz.tl155 : TL prog 155 2 true := ⟨by kernel_rfl, by kernel_rfl⟩
instance Tryz.tb155 : TB prog 155 16 := ⟨by kernel_rfl⟩
instance Tryz.tz155 : TZ prog 155 [.int .i64 (0), .int .i64 (0)] := TZ.of (by kernel_rfl)
instance Tryz.tf155_0 : TF prog 155 0 0 := TF.of (ft := 3) (k := 0) (by kernel_rfl)
instance Tryz.tf155_1 : TF prog 155 1 1 := TF.of (ft := 3) (k := 0) (by kernel_rfl)
instance Tryz.tp155 : TP prog 155 [(0, 1), (1, 1)] := TP.of (by kernel_rfl)
instance Tryz.tz157 : TZ prog 157 [.slice none 0 0, .int .i64 (0)] := TZ.of (by kernel_rfl)
instance Tryz.tf157_0 : TF prog 157 0 0 := TF.of (ft := 137) (k := 0) (by kernel_rfl)
instance Tryz.tf157_1 : TF prog 157 1 1 := TF.of (ft := 3) (k := 0) (by kernel_rfl)
instance Tryz.tp157 : TP prog 157 [(0, 1), (1, 1)] := TP.of (by kernel_rfl)
instance Tryz.tu158 : TU prog 158 (.pointer 157) := ⟨by kernel_rfl⟩
instance Tryz.tl163 : TL prog 163 3 true := ⟨by kernel_rfl, by kernel_rfl⟩
instance Tryz.tu163 : TU prog 163 (.array 3 3) := ⟨by kernel_rfl⟩
instance Tryz.tz163 : TZ prog 163 [.int .i64 (0), .int .i64 (0), .int .i64 (0)] := TZ.of (by kernel_rfl)
instance Tryz.tu175 : TU prog 175 (.array 4 4) := ⟨by kernel_rfl⟩
instance Tryz.tz175 : TZ prog 175 [.bool false, .bool false, .bool false, .bool false] := TZ.of (by kernel_rfl)
instance Tryz.tz182 : TZ prog 182 [.slice none 0 0, .int .i64 (0), .bool false, .bool false, .bool false, .bool false] := TZ.of (by kernel_rfl)
instance Tryz.tf182_0 : TF prog 182 0 0 := TF.of (ft := 137) (k := 0) (by kernel_rfl)
instance Tryz.tf182_1 : TF prog 182 1 1 := TF.of (ft := 3) (k := 0) (by kernel_rfl)
instance Tryz.tf182_2 : TF prog 182 2 2 := TF.of (ft := 4) (k := 0) (by kernel_rfl)
instance Tryz.tf182_3 : TF prog 182 3 3 := TF.of (ft := 4) (k := 0) (by kernel_rfl)
instance Tryz.tf182_4 : TF prog 182 4 4 := TF.of (ft := 4) (k := 0) (by kernel_rfl)
instance Tryz.tf182_5 : TF prog 182 5 5 := TF.of (ft := 4) (k := 0) (by kernel_rfl)
instance Tryz.tp182 : TP prog 182 [(0, 1), (1, 1), (2, 1), (3, 1), (4, 1), (5, 1)] := TP.of (by kernel_rfl)
instance Tryz.tf188_0 : TF prog 188 0 0 := TF.of (ft := 3) (k := 0) (by kernel_rfl)
instance Tryz.tf188_1 : TF prog 188 1 1 := TF.of (ft := 137) (k := 0) (by kernel_rfl)
instance Tryz.tf188_2 : TF prog 188 2 2 := TF.of (ft := 79) (k := 0) (by kernel_rfl)
instance Tryz.tl189 : TL prog 189 1 false := ⟨by kernel_rfl, by kernel_rfl⟩
instance Tryz.tb189 : TB prog 189 8 := ⟨by kernel_rfl⟩
instance Tryz.tz189 : TZ prog 189 [.pointer none] := TZ.of (by kernel_rfl)
instance Tryz.tz195 : TZ prog 195 [.slice none 0 0, .int .i64 (0), .bool false] := TZ.of (by kernel_rfl)
instance Tryz.tf195_0 : TF prog 195 0 0 := TF.of (ft := 137) (k := 0) (by kernel_rfl)
instance Tryz.tf195_1 : TF prog 195 1 1 := TF.of (ft := 3) (k := 0) (by kernel_rfl)
instance Tryz.tf195_2 : TF prog 195 2 2 := TF.of (ft := 4) (k := 0) (by kernel_rfl)
instance Tryz.tp195 : TP prog 195 [(0, 1), (1, 1), (2, 1)] := TP.of (by kernel_rfl)
instance Tryz.tu209 : TU prog 209 (.slice 37) := ⟨by kernel_rfl⟩
instance Tryz.tu215 : TU prog 215 (.int .u32) := ⟨by kernel_rfl⟩
instance Tryz.tl218 : TL prog 218 1 false := ⟨by kernel_rfl, by kernel_rfl⟩
instance Tryz.tz218 : TZ prog 218 [.pointer none] := TZ.of (by kernel_rfl)
instance Tryz.tu225 : TU prog 225 (.int .u64) := ⟨by kernel_rfl⟩
instance Tryz.tu240 : TU prog 240 (.slice 39) := ⟨by kernel_rfl⟩
instance Tryz.tu250 : TU prog 250 (.slice 137) := ⟨by kernel_rfl⟩
instance Tryz.tu272 : TU prog 272 (.slice 218) := ⟨by kernel_rfl⟩
instance Tryz.en10 : Enters prog 10 := ⟨⟨_, func10, by kernel_rfl, by kernel_rfl⟩⟩
instance Tryz.en12 : Enters prog 12 := ⟨⟨_, func12, by kernel_rfl, by kernel_rfl⟩⟩
instance Tryz.en15 : Enters prog 15 := ⟨⟨_, func15, by kernel_rfl, by kernel_rfl⟩⟩
instance Tryz.en16 : Enters prog 16 := ⟨⟨_, func16, by kernel_rfl, by kernel_rfl⟩⟩
instance Tryz.en17 : Enters prog 17 := ⟨⟨_, func17, by kernel_rfl, by kernel_rfl⟩⟩
instance Tryz.en18 : Enters prog 18 := ⟨⟨_, func18, by kernel_rfl, by kernel_rfl⟩⟩
instance Tryz.en20 : Enters prog 20 := ⟨⟨_, func20, by kernel_rfl, by kernel_rfl⟩⟩
instance Tryz.en21 : Enters prog 21 := ⟨⟨_, func21, by kernel_rfl, by kernel_rfl⟩⟩
instance Tryz.en22 : Enters prog 22 := ⟨⟨_, func22, by kernel_rfl, by kernel_rfl⟩⟩
instance Tryz.en23 : Enters prog 23 := ⟨⟨_, func23, by kernel_rfl, by kernel_rfl⟩⟩
instance Tryz.en24 : Enters prog 24 := ⟨⟨_, func24, by kernel_rfl, by kernel_rfl⟩⟩
instance Tryz.en25 : Enters prog 25 := ⟨⟨_, func25, by kernel_rfl, by kernel_rfl⟩⟩
instance Tryz.en26 : Enters prog 26 := ⟨⟨_, func26, by kernel_rfl, by kernel_rfl⟩⟩
instance Tryz.en27 : Enters prog 27 := ⟨⟨_, func27, by kernel_rfl, by kernel_rfl⟩⟩
instance Tryz.en28 : Enters prog 28 := ⟨⟨_, func28, by kernel_rfl, by kernel_rfl⟩⟩
instance Tryz.en30 : Enters prog 30 := ⟨⟨_, func30, by kernel_rfl, by kernel_rfl⟩⟩
instance Tryz.en32 : Enters prog 32 := ⟨⟨_, func32, by kernel_rfl, by kernel_rfl⟩⟩
instance Tryz.en33 : Enters prog 33 := ⟨⟨_, func33, by kernel_rfl, by kernel_rfl⟩⟩
instance Tryz.en34 : Enters prog 34 := ⟨⟨_, func34, by kernel_rfl, by kernel_rfl⟩⟩
instance Tryz.en35 : Enters prog 35 := ⟨⟨_, func35, by kernel_rfl, by kernel_rfl⟩⟩
instance Tryz.en36 : Enters prog 36 := ⟨⟨_, func36, by kernel_rfl, by kernel_rfl⟩⟩
instance Tryz.en37 : Enters prog 37 := ⟨⟨_, func37, by kernel_rfl, by kernel_rfl⟩⟩
instance Tryz.en38 : Enters prog 38 := ⟨⟨_, func38, by kernel_rfl, by kernel_rfl⟩⟩
instance Tryz.en39 : Enters prog 39 := ⟨⟨_, func39, by kernel_rfl, by kernel_rfl⟩⟩
instance Tryz.en40 : Enters prog 40 := ⟨⟨_, func40, by kernel_rfl, by kernel_rfl⟩⟩
instance Tryz.en41 : Enters prog 41 := ⟨⟨_, func41, by kernel_rfl, by kernel_rfl⟩⟩
instance Tryz.en42 : Enters prog 42 := ⟨⟨_, func42, by kernel_rfl, by kernel_rfl⟩⟩
instance Tryz.en43 : Enters prog 43 := ⟨⟨_, func43, by kernel_rfl, by kernel_rfl⟩⟩
instance Tryz.en44 : Enters prog 44 := ⟨⟨_, func44, by kernel_rfl, by kernel_rfl⟩⟩
instance Tryz.en45 : Enters prog 45 := ⟨⟨_, func45, by kernel_rfl, by kernel_rfl⟩⟩
instance Tryz.en46 : Enters prog 46 := ⟨⟨_, func46, by kernel_rfl, by kernel_rfl⟩⟩
instance Tryz.en54 : Enters prog 54 := ⟨⟨_, func54, by kernel_rfl, by kernel_rfl⟩⟩
instance Tryz.en57 : Enters prog 57 := ⟨⟨_, func57, by kernel_rfl, by kernel_rfl⟩⟩
instance Tryz.en61 : Enters prog 61 := ⟨⟨_, func61, by kernel_rfl, by kernel_rfl⟩⟩
instance Tryz.en62 : Enters prog 62 := ⟨⟨_, func62, by kernel_rfl, by kernel_rfl⟩⟩
instance Tryz.en63 : Enters prog 63 := ⟨⟨_, func63, by kernel_rfl, by kernel_rfl⟩⟩
instance Tryz.en64 : Enters prog 64 := ⟨⟨_, func64, by kernel_rfl, by kernel_rfl⟩⟩
instance Tryz.en65 : Enters prog 65 := ⟨⟨_, func65, by kernel_rfl, by kernel_rfl⟩⟩
instance Tryz.en66 : Enters prog 66 := ⟨⟨_, func66, by kernel_rfl, by kernel_rfl⟩⟩
instance Tryz.en67 : Enters prog 67 := ⟨⟨_, func67, by kernel_rfl, by kernel_rfl⟩⟩
instance Tryz.en68 : Enters prog 68 := ⟨⟨_, func68, by kernel_rfl, by kernel_rfl⟩⟩
instance Tryz.en69 : Enters prog 69 := ⟨⟨_, func69, by kernel_rfl, by kernel_rfl⟩⟩
instance Tryz.en70 : Enters prog 70 := ⟨⟨_, func70, by kernel_rfl, by kernel_rfl⟩⟩
instance Tryz.en73 : Enters prog 73 := ⟨⟨_, func73, by kernel_rfl, by kernel_rfl⟩⟩
instance Tryz.en74 : Enters prog 74 := ⟨⟨_, func74, by kernel_rfl, by kernel_rfl⟩⟩
instance Tryz.en75 : Enters prog 75 := ⟨⟨_, func75, by kernel_rfl, by kernel_rfl⟩⟩
instance Tryz.en76 : Enters prog 76 := ⟨⟨_, func76, by kernel_rfl, by kernel_rfl⟩⟩
instance Tryz.en77 : Enters prog 77 := ⟨⟨_, func77, by kernel_rfl, by kernel_rfl⟩⟩
instance Tryz.en78 : Enters prog 78 := ⟨⟨_, func78, by kernel_rfl, by kernel_rfl⟩⟩
instance Tryz.en79 : Enters prog 79 := ⟨⟨_, func79, by kernel_rfl, by kernel_rfl⟩⟩
instance Tryz.en80 : Enters prog 80 := ⟨⟨_, func80, by kernel_rfl, by kernel_rfl⟩⟩
instance Tryz.en81 : Enters prog 81 := ⟨⟨_, func81, by kernel_rfl, by kernel_rfl⟩⟩
instance Tryz.en82 : Enters prog 82 := ⟨⟨_, func82, by kernel_rfl, by kernel_rfl⟩⟩
instance Tryz.en83 : Enters prog 83 := ⟨⟨_, func83, by kernel_rfl, by kernel_rfl⟩⟩
instance Tryz.en84 : Enters prog 84 := ⟨⟨_, func84, by kernel_rfl, by kernel_rfl⟩⟩
instance Tryz.en85 : Enters prog 85 := ⟨⟨_, func85, by kernel_rfl, by kernel_rfl⟩⟩
instance Tryz.en86 : Enters prog 86 := ⟨⟨_, func86, by kernel_rfl, by kernel_rfl⟩⟩
instance Tryz.en87 : Enters prog 87 := ⟨⟨_, func87, by kernel_rfl, by kernel_rfl⟩⟩
instance Tryz.en88 : Enters prog 88 := ⟨⟨_, func88, by kernel_rfl, by kernel_rfl⟩⟩
instance Tryz.en89 : Enters prog 89 := ⟨⟨_, func89, by kernel_rfl, by kernel_rfl⟩⟩
instance Tryz.en90 : Enters prog 90 := ⟨⟨_, func90, by kernel_rfl, by kernel_rfl⟩⟩
instance Tryz.en91 : Enters prog 91 := ⟨⟨_, func91, by kernel_rfl, by kernel_rfl⟩⟩
instance Tryz.en92 : Enters prog 92 := ⟨⟨_, func92, by kernel_rfl, by kernel_rfl⟩⟩
instance Tryz.en93 : Enters prog 93 := ⟨⟨_, func93, by kernel_rfl, by kernel_rfl⟩⟩
instance Tryz.en94 : Enters prog 94 := ⟨⟨_, func94, by kernel_rfl, by kernel_rfl⟩⟩
instance Tryz.en95 : Enters prog 95 := ⟨⟨_, func95, by kernel_rfl, by kernel_rfl⟩⟩
instance Tryz.en96 : Enters prog 96 := ⟨⟨_, func96, by kernel_rfl, by kernel_rfl⟩⟩
instance Tryz.en97 : Enters prog 97 := ⟨⟨_, func97, by kernel_rfl, by kernel_rfl⟩⟩
instance Tryz.en98 : Enters prog 98 := ⟨⟨_, func98, by kernel_rfl, by kernel_rfl⟩⟩
instance Tryz.en110 : Enters prog 110 := ⟨⟨_, func110, by kernel_rfl, by kernel_rfl⟩⟩
instance Tryz.en117 : Enters prog 117 := ⟨⟨_, func117, by kernel_rfl, by kernel_rfl⟩⟩
instance Tryz.en118 : Enters prog 118 := ⟨⟨_, func118, by kernel_rfl, by kernel_rfl⟩⟩
instance Tryz.en119 : Enters prog 119 := ⟨⟨_, func119, by kernel_rfl, by kernel_rfl⟩⟩
instance Tryz.en120 : Enters prog 120 := ⟨⟨_, func120, by kernel_rfl, by kernel_rfl⟩⟩
instance Tryz.en121 : Enters prog 121 := ⟨⟨_, func121, by kernel_rfl, by kernel_rfl⟩⟩
instance Tryz.en122 : Enters prog 122 := ⟨⟨_, func122, by kernel_rfl, by kernel_rfl⟩⟩
instance Tryz.en123 : Enters prog 123 := ⟨⟨_, func123, by kernel_rfl, by kernel_rfl⟩⟩
instance Tryz.en124 : Enters prog 124 := ⟨⟨_, func124, by kernel_rfl, by kernel_rfl⟩⟩
instance Tryz.en125 : Enters prog 125 := ⟨⟨_, func125, by kernel_rfl, by kernel_rfl⟩⟩
instance Tryz.en126 : Enters prog 126 := ⟨⟨_, func126, by kernel_rfl, by kernel_rfl⟩⟩
instance Tryz.en127 : Enters prog 127 := ⟨⟨_, func127, by kernel_rfl, by kernel_rfl⟩⟩
instance Tryz.en128 : Enters prog 128 := ⟨⟨_, func128, by kernel_rfl, by kernel_rfl⟩⟩
instance Tryz.en129 : Enters prog 129 := ⟨⟨_, func129, by kernel_rfl, by kernel_rfl⟩⟩
instance Tryz.en130 : Enters prog 130 := ⟨⟨_, func130, by kernel_rfl, by kernel_rfl⟩⟩
instance Tryz.en131 : Enters prog 131 := ⟨⟨_, func131, by kernel_rfl, by kernel_rfl⟩⟩
instance Tryz.en132 : Enters prog 132 := ⟨⟨_, func132, by kernel_rfl, by kernel_rfl⟩⟩
instance Tryz.en133 : Enters prog 133 := ⟨⟨_, func133, by kernel_rfl, by kernel_rfl⟩⟩
instance Tryz.en134 : Enters prog 134 := ⟨⟨_, func134, by kernel_rfl, by kernel_rfl⟩⟩
instance Tryz.en135 : Enters prog 135 := ⟨⟨_, func135, by kernel_rfl, by kernel_rfl⟩⟩
instance Tryz.en136 : Enters prog 136 := ⟨⟨_, func136, by kernel_rfl, by kernel_rfl⟩⟩
instance Tryz.en137 : Enters prog 137 := ⟨⟨_, func137, by kernel_rfl, by kernel_rfl⟩⟩
instance Tryz.en138 : Enters prog 138 := ⟨⟨_, func138, by kernel_rfl, by kernel_rfl⟩⟩
instance Tryz.en139 : Enters prog 139 := ⟨⟨_, func139, by kernel_rfl, by kernel_rfl⟩⟩
instance Tryz.en140 : Enters prog 140 := ⟨⟨_, func140, by kernel_rfl, by kernel_rfl⟩⟩
instance Tryz.en141 : Enters prog 141 := ⟨⟨_, func141, by kernel_rfl, by kernel_rfl⟩⟩
instance Tryz.en142 : Enters prog 142 := ⟨⟨_, func142, by kernel_rfl, by kernel_rfl⟩⟩
instance Tryz.en143 : Enters prog 143 := ⟨⟨_, func143, by kernel_rfl, by kernel_rfl⟩⟩
instance Tryz.en144 : Enters prog 144 := ⟨⟨_, func144, by kernel_rfl, by kernel_rfl⟩⟩
instance Tryz.en145 : Enters prog 145 := ⟨⟨_, func145, by kernel_rfl, by kernel_rfl⟩⟩
instance Tryz.en146 : Enters prog 146 := ⟨⟨_, func146, by kernel_rfl, by kernel_rfl⟩⟩
instance Tryz.en147 : Enters prog 147 := ⟨⟨_, func147, by kernel_rfl, by kernel_rfl⟩⟩
instance Tryz.en148 : Enters prog 148 := ⟨⟨_, func148, by kernel_rfl, by kernel_rfl⟩⟩
instance Tryz.en149 : Enters prog 149 := ⟨⟨_, func149, by kernel_rfl, by kernel_rfl⟩⟩
instance Tryz.en150 : Enters prog 150 := ⟨⟨_, func150, by kernel_rfl, by kernel_rfl⟩⟩
instance Tryz.en151 : Enters prog 151 := ⟨⟨_, func151, by kernel_rfl, by kernel_rfl⟩⟩
instance Tryz.en167 : Enters prog 167 := ⟨⟨_, func167, by kernel_rfl, by kernel_rfl⟩⟩
instance Tryz.en173 : Enters prog 173 := ⟨⟨_, func173, by kernel_rfl, by kernel_rfl⟩⟩
instance Tryz.en174 : Enters prog 174 := ⟨⟨_, func174, by kernel_rfl, by kernel_rfl⟩⟩
instance Tryz.en175 : Enters prog 175 := ⟨⟨_, func175, by kernel_rfl, by kernel_rfl⟩⟩
instance Tryz.en176 : Enters prog 176 := ⟨⟨_, func176, by kernel_rfl, by kernel_rfl⟩⟩
instance Tryz.en177 : Enters prog 177 := ⟨⟨_, func177, by kernel_rfl, by kernel_rfl⟩⟩
instance Tryz.en178 : Enters prog 178 := ⟨⟨_, func178, by kernel_rfl, by kernel_rfl⟩⟩
instance Tryz.en179 : Enters prog 179 := ⟨⟨_, func179, by kernel_rfl, by kernel_rfl⟩⟩
instance Tryz.en180 : Enters prog 180 := ⟨⟨_, func180, by kernel_rfl, by kernel_rfl⟩⟩
instance Tryz.en181 : Enters prog 181 := ⟨⟨_, func181, by kernel_rfl, by kernel_rfl⟩⟩
instance Tryz.en182 : Enters prog 182 := ⟨⟨_, func182, by kernel_rfl, by kernel_rfl⟩⟩
instance Tryz.en183 : Enters prog 183 := ⟨⟨_, func183, by kernel_rfl, by kernel_rfl⟩⟩
instance Tryz.en186 : Enters prog 186 := ⟨⟨_, func186, by kernel_rfl, by kernel_rfl⟩⟩
instance Tryz.en187 : Enters prog 187 := ⟨⟨_, func187, by kernel_rfl, by kernel_rfl⟩⟩
instance Tryz.en188 : Enters prog 188 := ⟨⟨_, func188, by kernel_rfl, by kernel_rfl⟩⟩
instance Tryz.en189 : Enters prog 189 := ⟨⟨_, func189, by kernel_rfl, by kernel_rfl⟩⟩
instance Tryz.en190 : Enters prog 190 := ⟨⟨_, func190, by kernel_rfl, by kernel_rfl⟩⟩
instance Tryz.en191 : Enters prog 191 := ⟨⟨_, func191, by kernel_rfl, by kernel_rfl⟩⟩
instance Tryz.en192 : Enters prog 192 := ⟨⟨_, func192, by kernel_rfl, by kernel_rfl⟩⟩
instance Tryz.en193 : Enters prog 193 := ⟨⟨_, func193, by kernel_rfl, by kernel_rfl⟩⟩
instance Tryz.en194 : Enters prog 194 := ⟨⟨_, func194, by kernel_rfl, by kernel_rfl⟩⟩
instance Tryz.en195 : Enters prog 195 := ⟨⟨_, func195, by kernel_rfl, by kernel_rfl⟩⟩
instance Tryz.en196 : Enters prog 196 := ⟨⟨_, func196, by kernel_rfl, by kernel_rfl⟩⟩
instance Tryz.en197 : Enters prog 197 := ⟨⟨_, func197, by kernel_rfl, by kernel_rfl⟩⟩
instance Tryz.en210 : Enters prog 210 := ⟨⟨_, func210, by kernel_rfl, by kernel_rfl⟩⟩
instance Tryz.en223 : Enters prog 223 := ⟨⟨_, func223, by kernel_rfl, by kernel_rfl⟩⟩
instance Tryz.en224 : Enters prog 224 := ⟨⟨_, func224, by kernel_rfl, by kernel_rfl⟩⟩
instance Tryz.en225 : Enters prog 225 := ⟨⟨_, func225, by kernel_rfl, by kernel_rfl⟩⟩
instance Tryz.en226 : Enters prog 226 := ⟨⟨_, func226, by kernel_rfl, by kernel_rfl⟩⟩
instance Tryz.en227 : Enters prog 227 := ⟨⟨_, func227, by kernel_rfl, by kernel_rfl⟩⟩
instance Tryz.en228 : Enters prog 228 := ⟨⟨_, func228, by kernel_rfl, by kernel_rfl⟩⟩
instance Tryz.en229 : Enters prog 229 := ⟨⟨_, func229, by kernel_rfl, by kernel_rfl⟩⟩
instance Tryz.en230 : Enters prog 230 := ⟨⟨_, func230, by kernel_rfl, by kernel_rfl⟩⟩
instance Tryz.en231 : Enters prog 231 := ⟨⟨_, func231, by kernel_rfl, by kernel_rfl⟩⟩
instance Tryz.en242 : Enters prog 242 := ⟨⟨_, func242, by kernel_rfl, by kernel_rfl⟩⟩
end Go.Proofs

namespace Go.Sl
open Go List
section
variable {g : World} {P : Program} {ops : Array Oper} {Q : Exit → Act → World → Prop} {n : Nat} {rest : List Oper} {L : Fm} {H : HH} {q : Bool}
variable {d : Nat} {ty : TypeId} {pos : String} {af : Array Edge} {v v2 : Value}
def strOf (xs : List UInt8) : ByteArray := ⟨xs.toArray⟩
theorem strOf_data (s : ByteArray) : strOf s.data.toList = s := by cases s; rfl
theorem data_strOf (xs : List UInt8) : (strOf xs).data.toList = xs := rfl
theorem strOf_inj {xs ys : List UInt8} : strOf xs = strOf ys ↔ xs = ys := by
 constructor
 ·intro h
  have := congrArg (fun s : ByteArray => s.data.toList) h
  simpa [strOf] using this
 ·rintro rfl; rfl
theorem WX.strOf {x : Operand} {t t' e : Nat} {xs : List UInt8} {h : Hp} {K : Hp → HH} (hx : ev L x = some v) (hs : Rs xs v h) [hw : Swp h H K] [h1 : TU P t (.slice e)] [h2 : TU P e (.int .u8)] [h3 : TU P t' .string] (hd : Nat.blt d n = true)
  (kk : WX q g P ops Q n rest ((d, .string (Sl.strOf xs)) :: L) H) : WX q g P ops Q n (⟨some d, .convert t t' x, ty, pos, af, none⟩ :: rest) L H :=
 WX.val (fun a ha w ho => by
  obtain ⟨p, c, rfl, le, f⟩ := hs
  have key : (convert t t' (.slice p xs.length c)).run P w = .ok (.string ⟨xs.toArray⟩) w := by
   cases p with
   | none =>
    have hx : xs = [] := by
     cases xs with
     | nil => rfl
     | cons y r => obtain ⟨b, off, e, _⟩ := f 0 y rfl; cases e
    subst hx
    rw [run_convert_bytes_string w t t' e none _ c h1.h h2.h h3.h]
    simp [Conv.bytesToString]
    rfl
   | some a =>
    refine run_convert_bytes_back w t t' e a c xs h1.h h2.h h3.h (fun j hj => ?_)
    obtain ⟨b, off, e1, e2⟩ := f j _ (List.getElem?_eq_getElem hj)
    cases e1
    rw [add_none]
    have := e2 0 _ rfl g w (hw.onx ho)
    simpa [Enc.sz] using this
  simp only [execOp, ha.ev hx, Sem.run_bind, key, Result.andThen_ok, Sem.run_pure]
  rfl) hd kk
section strs
variable {x y : Operand} {t t' : Nat} {a b : ByteArray}
theorem run_eqGuard_str {op : BinOp} {w : World} : (eqGuard op t x y (.string a) (.string b)).run P w = .ok () w := by
 unfold eqGuard; cases op <;> rfl
theorem WX.eqlS (hx : ev L x = some (.string a)) (hy : ev L y = some (.string b)) (hd : Nat.blt d n = true) [ht : TU P t .string]
  (k : WX q g P ops Q n rest ((d, .bool (decide (a = b))) :: L) H) : WX q g P ops Q n (⟨some d, .binOp .eql t x y t', ty, pos, af, none⟩ :: rest) L H :=
 WX.val (fun ac ha w _ => run_bin (ha.ev hx) (ha.ev hy) run_eqGuard_str (by
  rw [binOp_string_eql, Sem.run_pure, ← beq_toListBytes, beq_bytes])) hd k
theorem WX.neqS (hx : ev L x = some (.string a)) (hy : ev L y = some (.string b)) (hd : Nat.blt d n = true) [ht : TU P t .string]
  (k : WX q g P ops Q n rest ((d, .bool (decide (¬ a = b))) :: L) H) : WX q g P ops Q n (⟨some d, .binOp .neq t x y t', ty, pos, af, none⟩ :: rest) L H :=
 WX.val (fun ac ha w _ => run_bin (ha.ev hx) (ha.ev hy) run_eqGuard_str (by
  rw [binOp_string_neq, Sem.run_pure, ← beq_toListBytes, beq_bytes]
  simp)) hd k
end strs
-- slices against nil
section nilsl
variable {x y : Operand} {t t' e : Nat} {p : Option Addr} {l c : Nat}
theorem run_eqGuard_sl {op : BinOp} {w : World} {u : Value} : (eqGuard op t x y (.slice p l c) (.slice none 0 0)).run P w = .ok () w := by
 unfold eqGuard; cases op <;> rfl
theorem run_equalIn_sl {w : World} (k : Nat) [ht : TU P t (.slice e)] : (Op.equalIn (k + 1) t (.slice p l c) (.slice none 0 0)).run P w = .ok p.isNone w := by
 cases p <;> simp [Op.equalIn, ht.run]
theorem WX.eqlN (hx : ev L x = some (.slice p l c)) (hy : ev L y = some (.slice none 0 0)) (hd : Nat.blt d n = true) [ht : TU P t (.slice e)]
  (k : WX q g P ops Q n rest ((d, .bool p.isNone) :: L) H) : WX q g P ops Q n (⟨some d, .binOp .eql t x y t', ty, pos, af, none⟩ :: rest) L H :=
 WX.val (fun ac ha w _ => run_bin (ha.ev hx) (ha.ev hy) (run_eqGuard_sl (u := undef)) (by
  show ((do pure (.bool (← Op.equalIn 10000 t (.slice p l c) (.slice none 0 0))) : Sem Value)).run P w = _
  rw [Sem.run_bind, run_equalIn_sl (t := t) (e := e) 9999]; rfl)) hd k
end nilsl
-- slices that are cut
def slCut (v : Value) (m lo hi mx : Nat) : Value := match v with
 | .slice a _ _ => .slice (if mx = lo then a else a.map (·.add (lo * m))) (hi - lo) (mx - lo)
 | _ => v
def slCap : Value → Nat
 | .slice _ _ c => c
 | _ => 0
theorem slCut_eq (a : Option Addr) (l c m lo hi mx : Nat) : slCut (.slice a l c) m lo hi mx = .slice (if mx = lo then a else a.map (·.add (lo * m))) (hi - lo) (mx - lo) := rfl
section cut
variable {x i j k3 : Operand} {t e m lo hi mx : Nat} {ag : Bool} {kd kd' kd3 : IntKind} {p : Option Addr} {l c : Nat}
theorem bound_ok {w : World} {kd : IntKind} {k y : Nat} {code : BoundsCode} (h : k ≤ y) : (Instr.sliceBound (.int kd (k : Int)) y code).run P w = .ok k w := by
 have : (0 : Int) ≤ (k : Int) ∧ (k : Int) ≤ (y : Int) := ⟨by omega, by omega⟩
 simp [Instr.sliceBound, asIntOf, h]
theorem WX.cut2 (hx : ev L x = some (.slice p l c)) (hi' : ev L i = some (.int kd (lo : Int))) (hj' : ev L j = some (.int kd' (hi : Int))) (h1 : lo ≤ hi) (h2 : hi ≤ c) [ht : TU P t (.slice e)] [hl : TL P e m ag]
  (hd : Nat.blt d n = true) (kk : WX q g P ops Q n rest ((d, slCut (.slice p l c) m lo hi c) :: L) H) : WX q g P ops Q n (⟨some d, .slice t x (some i) (some j) none, ty, pos, af, none⟩ :: rest) L H :=
 WX.val (fun a' ha w hw => by
  simp [execOp, ha.ev hx, ha.ev hi', ha.ev hj', Instr.sliceAt, Instr.slice, Instr.sliceBounds, bound_ok h1, bound_ok h2, ht.run, hl.sizeOf, slCut]) hd kk
theorem WX.cutFrom (hx : ev L x = some (.slice p l c)) (hi' : ev L i = some (.int kd (lo : Int))) (h1 : lo ≤ l) (h2 : l ≤ c) [ht : TU P t (.slice e)] [hl : TL P e m ag]
  (hd : Nat.blt d n = true) (kk : WX q g P ops Q n rest ((d, slCut (.slice p l c) m lo l c) :: L) H) : WX q g P ops Q n (⟨some d, .slice t x (some i) none none, ty, pos, af, none⟩ :: rest) L H :=
 WX.val (fun a' ha w hw => by
  simp [execOp, ha.ev hx, ha.ev hi', Instr.sliceAt, Instr.slice, Instr.sliceBounds, bound_ok h1, ht.run, hl.sizeOf, slCut]) hd kk
end cut
section cuts
variable {α : Type} [E : Enc α] {xs ys : List α} {y : α} {T k m : Nat} {h : Hp}
theorem Rs.cut (hs : Rs xs v h) (hm : m = Enc.sz α) {lo hi mx : Nat} (h1 : lo ≤ hi) (h2 : hi ≤ xs.length) (h3 : hi ≤ mx) : Rs ((xs.drop lo).take (hi - lo)) (slCut v m lo hi mx) h := by
 subst hm
 obtain ⟨a, c, rfl, le, f⟩ := hs
 have hl : ((xs.drop lo).take (hi - lo)).length = hi - lo := by rw [length_take, length_drop]; omega
 refine ⟨_, _, by rw [slCut_eq, hl], by omega, fun k y hk => ?_⟩
 have hlt := (List.getElem?_eq_some_iff.1 hk).1
 rw [hl] at hlt
 rw [List.getElem?_take, if_pos hlt, List.getElem?_drop] at hk
 obtain ⟨b, off, e1, e2⟩ := f (lo + k) y hk
 refine ⟨b, off + lo * Enc.sz α, ?_, fun j u hu g w ho => ?_⟩
 ·rw [if_neg (by omega), e1]; simp [add_none]
 ·rw [← e2 j u hu g w ho]; congr 2; rw [Nat.add_mul]; omega
theorem Rs.from (hs : Rs xs v h) (hm : m = Enc.sz α) {lo : Nat} (h1 : lo ≤ xs.length) : Rs (xs.drop lo) (slCut v m lo xs.length (slCap v)) h := by
 obtain ⟨a, c, e, le, f⟩ := id hs
 have := hs.cut hm h1 (Nat.le_refl _) (mx := slCap v) (by rw [e]; exact le)
 rwa [take_of_length_le (by rw [length_drop]; omega)] at this
theorem rep_one {zs : List Value} (h1 : oneCells zs = true) : ∀ k, oneCells (List.replicate k zs).flatten = true
 | 0 => rfl
 | k + 1 => by
  simp only [replicate_succ, flatten_cons, oneCells, all_append, Bool.and_eq_true]
  exact ⟨h1, rep_one h1 k⟩
theorem WX.clearB {x : Operand} {t b off len c : Nat} {zs : List Value} {cs : List Value} {fr : Nat × Nat} {K : Obj → HH} (hx : ev L x = some (.slice (some ⟨b, off, none⟩) len c)) [ht : TU P t (.slice T)] [hz : TZ P T zs]
  [hf : Foc b (.cells (List.toArray cs) T fr) H K] (h3 : Free fr cs.length) (hp : 0 < len) (hb : off + len * zs.length ≤ cs.length) (h1 : oneCells zs = true)
  (kk : WX false g P ops Q n rest L (K (.cells (List.toArray (setAt cs off (List.replicate len zs).flatten)) T fr))) :
  WX false g P ops Q n (⟨none, .call ⟨.builtin .clear, #[x], #[t]⟩, ty, pos, af, none⟩ :: rest) L H :=
 WX.effN (fun a w ha ho => by
  obtain ⟨z, hz1, hz2⟩ := hz.run (w := w)
  have hone := rep_one h1 len
  have hlen : (List.replicate len zs).flatten.length = len * zs.length := by simp
  obtain ⟨w', e1, e2, e3, e4⟩ := run_storeCellsF (P := P) (List.replicate len zs).flatten off 0 cs w (hf.heap ho) h3 (by rw [hlen]; omega) hone
  refine ⟨.tuple #[], w', _, run_bi (args := [x]) (vs := [.slice (some ⟨b, off, none⟩) len c]) (by simp [ha.ev hx]) ?_, hf.set ho e2 (by simpa using e3) e4, kk⟩
  obtain ⟨l', rfl⟩ : ∃ l', len = l' + 1 := ⟨len - 1, by omega⟩
  have hzc : (Builtin.zeroCells z.cells (l' + 1)).toList = (List.replicate (l' + 1) zs).flatten := by
   by_cases h0 : zs.length = 0
   ·have : zs = [] := length_eq_zero_iff.1 h0
    subst this
    simp [Builtin.zeroCells, hz2]
   ·have := range_zeros zs zs.length rfl (by omega) (l' + 1)
    rw [← this]
    simp [Builtin.zeroCells, hz2]
  simp [builtin, Builtin.clear_, ht.run, hz1, hzc, e1])
end cuts
end
section
variable {g : World} {P : Program} {ops : Array Oper} {Q : Exit → Act → World → Prop} {n : Nat} {rest : List Oper} {L : Fm} {H : HH} {q : Bool}
variable {d : Nat} {ty : TypeId} {pos : String} {af : Array Edge} {v v2 : Value}
theorem whole {cs : List Value} {m : Nat} (h : cs.length = m) : (cs.drop 0).take m = cs := by subst h; simp
theorem WX.nilH {os : List Oper} (h : WX q g P ops Q n os L ([] :: H)) : WX q g P ops Q n os L H := WX.flat (H' := [] :: H) rfl h
theorem Ct.pack {f : FuncId} {args : List Value} {pre pre' : HH} {post post' : Value → HH → Prop} (h : Ct P f args pre post) (e : pre'.flatten = pre.flatten) (k : ∀ v H', post v H' → ∃ H'', H''.flatten = H'.flatten ∧ post' v H'') : Ct P f args pre' post' :=
 ⟨fun g R w hw => (h.calls g R w (by simpa [e] using hw)).mono fun _ _ ⟨v, H', he, p, o⟩ => by
  obtain ⟨H'', e2, p2⟩ := k v H' p
  exact ⟨v, H'', he, p2, by simpa [e2] using o⟩⟩
theorem Ct.packP {f : FuncId} {args : List Value} {pre pre' : HH} {post post' : Value → HH → Prop} (h : Ct P f args pre post) (e : pre'.flatten = pre.flatten) (k : ∀ v H', post v H' → ∃ H'' X, (H''.flatten ++ X).Perm H'.flatten ∧ post' v H'') : Ct P f args pre' post' :=
 ⟨fun g R w hw => (h.calls g R w (by simpa [e] using hw)).mono fun en w' ⟨v, H', he, p, o⟩ => by
  obtain ⟨H'', X, e2, p2⟩ := k v H' p
  refine ⟨v, H'', he, p2, ?_⟩
  have o1 : on g (H'.flatten ++ R) w' := by simpa using o
  have o2 : on g (H''.flatten ++ X ++ R) w' := o1.perm (e2.symm.append_right R)
  have o3 : on g (H''.flatten ++ R ++ X) w' := o2.perm (by
   rw [append_assoc, append_assoc]
   exact List.Perm.append_left _ perm_append_comm)
  simpa using o3.left⟩
theorem Ct.frame {f : FuncId} {args : List Value} {pre F : HH} {post post' : Value → HH → Prop} (h : Ct P f args pre post) (k : ∀ v H', post v H' → post' v (H' ++ F)) : Ct P f args (pre ++ F) post' :=
 ⟨fun g R w hw => (h.calls g (F.flatten ++ R) w (by simpa using hw)).mono fun _ _ ⟨v, H', he, p, o⟩ => ⟨v, H' ++ F, he, k v H' p, by simpa using o⟩⟩
theorem Ct.ext {f : FuncId} {args : List Value} {x r : Hp} {u : Value} (h : Ct P f args [x] (fun v H' => v = u ∧ H' = [x])) : Ct P f args [x ++ r] (fun v H' => v = u ∧ H' = [x ++ r]) :=
 (Ct.frame (F := [r]) (post' := fun v H' => v = u ∧ H' = [x, r]) h (fun v H' p => ⟨p.1, by rw [p.2]; rfl⟩)).pack (by simp) (fun v H' p => ⟨[x ++ r], by rw [p.2]; simp, p.1, rfl⟩)
theorem IsSl.sh {α : Type} [Enc α] {T : Nat} {xs : List α} {v : Value} {h : Hp} (hs : IsSl T xs v h) : ∃ p n c, v = .slice p n c := let ⟨p, c, e⟩ := hs.len; ⟨p, _, c, e⟩
-- results
inductive Res (P : Program) (L : Fm) (H : HH) : List ResultVar → List Value → Prop
 | nil : Res P L H [] []
 | tmp {t : Nat} {v : Value} {rs : List ResultVar} {vs : List Value} (h : lk L t = some v) (r : Res P L H rs vs) : Res P L H (.tmp t :: rs) (v :: vs)
 | cellA {c b T T' m : Nat} {fr : Nat × Nat} {us : List Value} {K : Obj → HH} {rs : List ResultVar} {vs : List Value} (hl : lk L c = some (.pointer (some ⟨b, 0, none⟩))) [ht : TL P T m true] [hf : Foc b (.cells (List.toArray us) T' fr) H K]
   (hm : us.length = m) (r : Res P L H rs vs) : Res P L H (.cell c T :: rs) (.agg us.toArray :: vs)
 | cell1 {c b T T' : Nat} {fr : Nat × Nat} {u : Value} {K : Obj → HH} {rs : List ResultVar} {vs : List Value} (hl : lk L c = some (.pointer (some ⟨b, 0, none⟩))) [ht : TL P T 1 false] [hf : Foc b (.cells (List.toArray [u]) T' fr) H K]
   (r : Res P L H rs vs) : Res P L H (.cell c T :: rs) (u :: vs)
def resOf (tmps : Array Value) : ResultVar → Sem Value
 | .tmp t => pure (tmps.getD t undef)
 | .cell a t => do loadVar t (← asAddr (tmps.getD a undef))
theorem Res.run {rs : List ResultVar} {vs : List Value} {a : Act} {w : World} (h : Res P L H rs vs) (ha : Fr n L a) (hw : on g H.flatten w) : (rs.mapM (resOf a.tmps)).run P w = .ok vs w := by
 induction h with
 | nil => simp
 | tmp h r ih =>
  rename_i t v rs vs
  have hc : (resOf a.tmps (.tmp t)).run P w = .ok v w := by simp only [resOf, Sem.run_pure, ha.getD h]
  simp only [mapM_cons, Sem.run_bind, Sem.run_pure, Result.andThen_ok, ih, hc]
 | cellA hl hm r ih =>
  rename_i c b T T' m fr us K rs vs ht hf
  have h1 : (loadVar T ⟨b, 0, none⟩).run P w = .ok (.agg us.toArray) w := by
   subst hm
   have := run_loadCells_list (P := P) w ⟨b, 0, none⟩ us (fun j v e => by rw [add_none]; rw [Nat.zero_add, cell_bk (hf.heap hw)]; exact e)
   simp [loadVar, ht.isAgg, ht.sizeOf, this]
  have hc : (resOf a.tmps (.cell c T)).run P w = .ok (.agg us.toArray) w := by simp only [resOf, ha.getD hl, asAddr, Sem.run_bind, Sem.run_pure, Result.andThen_ok, h1]
  simp only [mapM_cons, Sem.run_bind, Sem.run_pure, Result.andThen_ok, ih, hc]
 | cell1 hl r ih =>
  rename_i c b T T' fr u K rs vs ht hf
  have h1 : (loadVar T ⟨b, 0, none⟩).run P w = .ok u w := by
   have : w.cell? ⟨b, 0, none⟩ = some u := by rw [cell_bk (hf.heap hw)]; rfl
   simp [loadVar, ht.isAgg, this]
  have hc : (resOf a.tmps (.cell c T)).run P w = .ok u w := by simp only [resOf, ha.getD hl, asAddr, Sem.run_bind, Sem.run_pure, Result.andThen_ok, h1]
  simp only [mapM_cons, Sem.run_bind, Sem.run_pure, Result.andThen_ok, ih, hc]
theorem Res.results {fn : Func} {rs : List ResultVar} {vs : List Value} {a : Act} {w : World} (hr : fn.results = rs.toArray) (h : Res P L H rs vs) (ha : Fr n L a) (hw : on g H.flatten w) :
  (Go.results fn a.tmps).run P w = .ok (if h : vs.toArray.size = 1 then vs.toArray[0] else .tuple vs.toArray) w := by
 have := h.run ha hw
 have e : (rs.toArray.mapM (resOf a.tmps)).run P w = .ok vs.toArray w := by
  rw [mapM_toArray]
  simp [this]
 unfold Go.results
 rw [hr]
 show ((do let vs ← rs.toArray.mapM (resOf a.tmps); pure (if h : vs.size = 1 then vs[0] else .tuple vs)) : Sem Value).run P w = _
 rw [Sem.run_bind, e]
 simp
theorem D.finR {fn : Func} {post : Value → HH → Prop} {R : Hp} {rs : List ResultVar} {vs : List Value} (H' r : HH) (hr : fn.results = rs.toArray) (h : Res P L H rs vs) (h1 : Nat.beq vs.length 1 = false) (hp : post (.tuple vs.toArray) H') [k : Picks (H' ++ [R]) H r] :
  D g (bodyPost P fn (cpost g post R)) .ret n L H :=
 .mk fun a w ha hw => ⟨ha.defers, .tuple vs.toArray, by
  rw [Res.results hr h ha hw, dif_neg]
  simpa using Nat.ne_of_beq_eq_false h1, ⟨_, H', rfl, hp, (Hsub.of_picks k).on hw⟩⟩
theorem D.finR1 {fn : Func} {post : Value → HH → Prop} {R : Hp} {rs : List ResultVar} {v : Value} (H' r : HH) (hr : fn.results = rs.toArray) (h : Res P L H rs [v]) (hp : post v H') [k : Picks (H' ++ [R]) H r] :
  D g (bodyPost P fn (cpost g post R)) .ret n L H :=
 .mk fun a w ha hw => ⟨ha.defers, v, by
  rw [Res.results hr h ha hw]; rfl, ⟨_, H', rfl, hp, (Hsub.of_picks k).on hw⟩⟩
-- []byte("..") of a constant: a mark behind the block
-- bytes
section bytes
variable {x y : Operand} {t t' a b : Nat}
theorem WX.and8 (hx : ev L x = some (.int .u8 (a : Int))) (hy : ev L y = some (.int .u8 (b : Int))) (ha : a < 256) (hb : b < 256) (hd : Nat.blt d n = true)
  (k : WX q g P ops Q n rest ((d, .int .u8 ((a &&& b : Nat) : Int)) :: L) H) : WX q g P ops Q n (⟨some d, .binOp .and t x y t', ty, pos, af, none⟩ :: rest) L H :=
 WX.val (fun ac hac w _ => run_bin (hac.ev hx) (hac.ev hy) run_eqGuard_int (by
  have := u8_and_nat a b ha hb
  simp only [binOp, ne_eq, not_true_eq_false, if_false, intBits_and, this, Sem.run_pure])) hd k
theorem WX.shrN {kd kd' : IntKind} {m : Nat} (hx : ev L x = some (.int kd (a : Int))) (hy : ev L y = some (.int kd' (m : Int))) (hm : m ≤ kd.bits) (hd : Nat.blt d n = true)
  (k : WX q g P ops Q n rest ((d, .int kd ((a / 2 ^ m : Nat) : Int)) :: L) H) : WX q g P ops Q n (⟨some d, .binOp .shr t x y t', ty, pos, af, none⟩ :: rest) L H :=
 WX.val (fun ac hac w _ => run_bin (hac.ev hx) (hac.ev hy) (by unfold eqGuard; rfl) (by
  have h1 : Min.min ((m : Int).toNat) kd.bits = m := by rw [Int.toNat_natCast]; exact Nat.min_eq_left hm
  have h2 : ((a : Int).fdiv (2 ^ m)) = ((a / 2 ^ m : Nat) : Int) := by
   rw [Int.fdiv_eq_ediv_of_nonneg _ (by exact Int.le_of_lt (Int.pow_pos (by decide)))]
   norm_cast
  simp only [binOp, Op.shift]
  rw [if_neg (by omega), h1, h2]
  rfl)) hd k
end bytes
end
class Go1 (G : Prop) (S : outParam Prop) : Prop where
 h : S → G
theorem go {G S : Prop} [i : Go1 G S] (h : S) : G := i.h h
section
variable {g : World} {P : Program} {ops : Array Oper} {Q : Exit → Act → World → Prop} {n : Nat} {rest os tail : List Oper} {L : Fm} {H Hc : HH} {q : Bool} {z : List (Bool × Oper)} {o : Oper}
variable {d : Nat} {ty : TypeId} {pos : String} {af : Array Edge} {v : Value}
instance {x y : Code} : Go1 (W g P (.seq x y) Q n L H) (W g P x (Exit.then (y.wp P Q) Q) n L H) := ⟨W.seq⟩
instance {id : Nat} {l : List Oper} : Go1 (W g P (.region id l.toArray false) Q n L H) (WX false g P l.toArray Q n l L H) := ⟨W.region⟩
instance : Go1 (WX q g P ops Q n [] L H) (D g Q .normal n L H) := ⟨WX.nil⟩
instance {y : Code} : Go1 (D g (Exit.then (y.wp P Q) Q) .normal n L H) (W g P y Q n L H) := ⟨D.seq⟩
instance {id : Nat} {c : Code} : Go1 (W g P (.block id c) Q n L H) (W g P c (Exit.inBlock id Q) n L H) := ⟨W.block⟩
instance {id : Nat} : Go1 (D g (Exit.inBlock id Q) .normal n L H) (D g Q .normal n L H) := ⟨D.blk⟩
instance : Go1 (W g P .skip Q n L H) (D g Q .normal n L H) := ⟨W.skip⟩
instance {id : Nat} : Go1 (W g P (.exit id) Q n L H) (D g Q (.exit id) n L H) := ⟨W.exit⟩
instance : Go1 (W g P .ret Q n L H) (D g Q .ret n L H) := ⟨W.ret⟩
instance : Go1 (D g (Qun g P ops Q Hc tail z H) .normal n L Hc) (WM g P ops Q n Hc tail z L H) := ⟨WM.backU⟩
instance {r : HH} [k : Picks Hc H r] : Go1 (D g (Qan g P ops Q Hc tail z) .normal n L H) (WM g P ops Q n Hc tail z L H) := ⟨WM.back⟩
instance {id : Nat} : Go1 (D g (Exit.inBlock id Q) (.exit id) n L H) (D g Q .normal n L H) := ⟨D.blkX⟩
instance {N : Act → World → Prop} {id : Nat} : Go1 (D g (Exit.then N Q) (.exit id) n L H) (D g Q (.exit id) n L H) := ⟨D.roundX⟩
instance {N : Act → World → Prop} : Go1 (D g (Exit.then N Q) .ret n L H) (D g Q .ret n L H) := ⟨D.roundR⟩
instance {id : Nat} : Go1 (D g (Exit.inBlock id Q) .ret n L H) (D g Q .ret n L H) := ⟨D.blkR⟩
theorem zY {id id' : Nat} (h : D g Q (.exit id') n L H) (ne : Nat.beq id' id = false := by exact rfl) : D g (Exit.inBlock id Q) (.exit id') n L H := D.blkY ne h
theorem mN (h : WX false g P ops Q n tail L H) : WM g P ops Q n Hc tail [] L H := WM.nil h
theorem mU {r : HH} [nv : NV P o] [k : Picks Hc H r] (h : WX true g P ops (Qun g P ops Q Hc tail z H) n [o] L Hc) : WM g P ops Q n Hc tail ((true, o) :: z) L H := WM.un h
theorem mA [nd : ND P o] (h : WX false g P ops (Qan g P ops Q Hc tail z) n [o] L H) : WM g P ops Q n Hc tail ((false, o) :: z) L H := WM.an h
-- conditions
section conds
variable {c : Operand} {x y : Code} {p : Prop} [Decidable p]
theorem cT (h : W g P x Q n L H) (hc : ev L c = some (.bool true) := by exact rfl) : W g P (.cond c x y) Q n L H := W.condT hc h
theorem cF (h : W g P y Q n L H) (hc : ev L c = some (.bool false) := by exact rfl) : W g P (.cond c x y) Q n L H := W.condF hc h
theorem cP (h : W g P x Q n L H) (hc : ev L c = some (.bool (decide p)) := by exact rfl) (hp : p := by first | assumption | omega) : W g P (.cond c x y) Q n L H := W.condP hc hp h
theorem cN (h : W g P y Q n L H) (hc : ev L c = some (.bool (decide p)) := by exact rfl) (hp : ¬ p := by first | assumption | omega) : W g P (.cond c x y) Q n L H := W.condN hc hp h
end conds
-- guards
section guards
variable {dst : Option Tmp} {op : Op} {j t : Nat} {want b : Bool} {p : Prop} [Decidable p]
theorem gy (k : WX q g P ops Q n (⟨dst, op, ty, pos, af, none⟩ :: rest) L H) (hj : (ops[j]?).bind (·.dst) = some t := by exact rfl) (ht : lk L t = some (.bool want) := by exact rfl) :
  WX q g P ops Q n (⟨dst, op, ty, pos, af, some (j, want)⟩ :: rest) L H := WX.gy hj ht k
theorem gn (k : WX q g P ops Q n rest ((d, undef) :: L) H) (hj : (ops[j]?).bind (·.dst) = some t := by exact rfl) (ht : lk L t = some (.bool b) := by exact rfl) (hne : (b == want) = false := by exact rfl) (hd : Nat.blt d n = true := by exact rfl) :
  WX q g P ops Q n (⟨some d, op, ty, pos, af, some (j, want)⟩ :: rest) L H := WX.gn hj ht hne hd k
theorem gu (k : WX q g P ops Q n rest ((d, undef) :: L) H) (hj : (ops[j]?).bind (·.dst) = some t := by exact rfl) (ht : lk L t = some undef := by exact rfl) (hd : Nat.blt d n = true := by exact rfl) :
  WX q g P ops Q n (⟨some d, op, ty, pos, af, some (j, want)⟩ :: rest) L H := WX.gu hj ht hd k
theorem gT (k : WX q g P ops Q n (⟨dst, op, ty, pos, af, some (j, want)⟩ :: rest) ((t, .bool true) :: L) H) (hj : (ops[j]?).bind (·.dst) = some t := by exact rfl) (ht : lk L t = some (.bool (decide p)) := by exact rfl)
  (hp : p := by first | assumption | omega) : WX q g P ops Q n (⟨dst, op, ty, pos, af, some (j, want)⟩ :: rest) L H := WX.gT hj ht hp k
theorem gF (k : WX q g P ops Q n (⟨dst, op, ty, pos, af, some (j, want)⟩ :: rest) ((t, .bool false) :: L) H) (hj : (ops[j]?).bind (·.dst) = some t := by exact rfl) (ht : lk L t = some (.bool (decide p)) := by exact rfl)
  (hp : ¬ p := by first | assumption | omega) : WX q g P ops Q n (⟨dst, op, ty, pos, af, some (j, want)⟩ :: rest) L H := WX.gF hj ht hp k
end guards
-- values
section vals
variable {x y c : Operand} {t t' : Nat}
theorem mv (k : WX q g P ops Q n rest ((d, v) :: L) H) (hx : ev L x = some v := by exact rfl) (hd : Nat.blt d n = true := by exact rfl) : WX q g P ops Q n (⟨some d, .move x, ty, pos, af, none⟩ :: rest) L H := WX.move hx hd k
theorem asg (k : WX q g P ops Q n rest ((d, v) :: L) H) (hx : ev L x = some v := by exact rfl) (hd : Nat.blt d n = true := by exact rfl) : WX q g P ops Q n (⟨some d, .assign x, ty, pos, af, none⟩ :: rest) L H := WX.assign hx hd k
theorem pT (k : WX q g P ops Q n rest ((d, v) :: L) H) (hc : ev L c = some (.bool true) := by exact rfl) (hx : ev L x = some v := by exact rfl) (hd : Nat.blt d n = true := by exact rfl) : WX q g P ops Q n (⟨some d, .pick c x y, ty, pos, af, none⟩ :: rest) L H := WX.pickT hc hx hd k
theorem pF (k : WX q g P ops Q n rest ((d, v) :: L) H) (hc : ev L c = some (.bool false) := by exact rfl) (hx : ev L y = some v := by exact rfl) (hd : Nat.blt d n = true := by exact rfl) : WX q g P ops Q n (⟨some d, .pick c x y, ty, pos, af, none⟩ :: rest) L H := WX.pickF hc hx hd k
theorem nc {p : Addr} (k : WX q g P ops Q n rest ((d, .pointer (some p)) :: L) H) (hx : ev L x = some (.pointer (some p)) := by exact rfl) (hd : Nat.blt d n = true := by exact rfl) : WX q g P ops Q n (⟨some d, .nilCheck x, ty, pos, af, none⟩ :: rest) L H := WX.nilCheck hx hd k
theorem fa {f b i off : Nat} [h : TF P t f off] (k : WX q g P ops Q n rest ((d, .pointer (some ⟨b, i + off, none⟩)) :: L) H) (hx : ev L x = some (.pointer (some ⟨b, i, none⟩)) := by exact rfl) (hd : Nat.blt d n = true := by exact rfl) :
  WX q g P ops Q n (⟨some d, .fieldAddr t x f, ty, pos, af, none⟩ :: rest) L H := WX.fieldAddr hx hd k
class CmpV (bo : BinOp) (i j : Int) (v : outParam Value) : Prop where
 h : ∀ {g : World} {P : Program} {ops : Array Oper} {Q : Exit → Act → World → Prop} {n : Nat} {rest : List Oper} {L : Fm} {H : HH} {q : Bool} {d : Nat} {ty : TypeId} {pos : String} {af : Array Edge} {x y : Operand} {t t' : Nat} {kd : IntKind},
  ev L x = some (.int kd i) → ev L y = some (.int kd j) → Nat.blt d n = true → WX q g P ops Q n rest ((d, v) :: L) H → WX q g P ops Q n (⟨some d, .binOp bo t x y t', ty, pos, af, none⟩ :: rest) L H
instance {i j : Int} : CmpV .lss i j (.bool (decide (i < j))) := ⟨WX.lss⟩
instance {i j : Int} : CmpV .leq i j (.bool (decide (i ≤ j))) := ⟨WX.leq⟩
instance {i j : Int} : CmpV .gtr i j (.bool (decide (j < i))) := ⟨WX.gtr⟩
instance {i j : Int} : CmpV .geq i j (.bool (decide (j ≤ i))) := ⟨WX.geq⟩
instance {i j : Int} : CmpV .eql i j (.bool (decide (i = j))) := ⟨WX.eql⟩
instance {i j : Int} : CmpV .neq i j (.bool (decide (¬ i = j))) := ⟨WX.neq⟩
theorem cm {bo : BinOp} {i j : Int} {kd : IntKind} (hx : ev L x = some (.int kd i)) (hy : ev L y = some (.int kd j)) [cv : CmpV bo i j v] (k : WX q g P ops Q n rest ((d, v) :: L) H) (hd : Nat.blt d n = true := by exact rfl) : WX q g P ops Q n (⟨some d, .binOp bo t x y t', ty, pos, af, none⟩ :: rest) L H := cv.h hx hy hd k
theorem ad {i j : Int} (k : WX q g P ops Q n rest ((d, .int .i64 (i + j)) :: L) H) (hx : ev L x = some (.int .i64 i) := by exact rfl) (hy : ev L y = some (.int .i64 j) := by exact rfl) (hd : Nat.blt d n = true := by exact rfl)
  (r : -9223372036854775808 ≤ i + j ∧ i + j ≤ 9223372036854775807 := by omega) : WX q g P ops Q n (⟨some d, .binOp .add t x y t', ty, pos, af, none⟩ :: rest) L H := WX.add hx hy hd r k
theorem su {i j : Int} (k : WX q g P ops Q n rest ((d, .int .i64 (i - j)) :: L) H) (hx : ev L x = some (.int .i64 i) := by exact rfl) (hy : ev L y = some (.int .i64 j) := by exact rfl) (hd : Nat.blt d n = true := by exact rfl)
  (r : -9223372036854775808 ≤ i - j ∧ i - j ≤ 9223372036854775807 := by omega) : WX q g P ops Q n (⟨some d, .binOp .sub t x y t', ty, pos, af, none⟩ :: rest) L H := WX.sub' hx hy hd r k
theorem re {i j : Int} {kd : IntKind} (k : WX q g P ops Q n rest ((d, .int kd (i.tmod j)) :: L) H) (hx : ev L x = some (.int kd i) := by exact rfl) (hy : ev L y = some (.int kd j) := by exact rfl) (hd : Nat.blt d n = true := by exact rfl)
  (r : j ≠ 0 := by omega) : WX q g P ops Q n (⟨some d, .binOp .rem t x y t', ty, pos, af, none⟩ :: rest) L H := WX.rem hx hy hd r k
class NilV (bo : BinOp) (p : Option Addr) (v : outParam Value) : Prop where
 h : ∀ {g : World} {P : Program} {ops : Array Oper} {Q : Exit → Act → World → Prop} {n : Nat} {rest : List Oper} {L : Fm} {H : HH} {q : Bool} {d : Nat} {ty : TypeId} {pos : String} {af : Array Edge} {x y : Operand} {t t' e : Nat} [ht : TU P t (.pointer e)],
  ev L x = some (.pointer p) → ev L y = some (.pointer none) → Nat.blt d n = true → WX q g P ops Q n rest ((d, v) :: L) H → WX q g P ops Q n (⟨some d, .binOp bo t x y t', ty, pos, af, none⟩ :: rest) L H
instance {p : Addr} : NilV .eql (some p) (.bool false) := ⟨fun h1 h2 h3 k => WX.eqPN h1 h2 h3 k⟩
instance {p : Addr} : NilV .neq (some p) (.bool true) := ⟨fun h1 h2 h3 k => WX.nePN h1 h2 h3 k⟩
instance : NilV .eql none (.bool true) := ⟨fun h1 h2 h3 k => WX.eqNN h1 h2 h3 k⟩
instance : NilV .neq none (.bool false) := ⟨fun h1 h2 h3 k => WX.neNN h1 h2 h3 k⟩
theorem np {bo : BinOp} {p : Option Addr} {e : Nat} [ht : TU P t (.pointer e)] (hx : ev L x = some (.pointer p)) (hy : ev L y = some (.pointer none)) [cv : NilV bo p v] (k : WX q g P ops Q n rest ((d, v) :: L) H) (hd : Nat.blt d n = true := by exact rfl) : WX q g P ops Q n (⟨some d, .binOp bo t x y t', ty, pos, af, none⟩ :: rest) L H := cv.h hx hy hd k
theorem eS {a b : ByteArray} [ht : TU P t .string] (k : WX q g P ops Q n rest ((d, .bool (decide (a = b))) :: L) H) (hx : ev L x = some (.string a) := by exact rfl) (hy : ev L y = some (.string b) := by exact rfl) (hd : Nat.blt d n = true := by exact rfl) :
  WX q g P ops Q n (⟨some d, .binOp .eql t x y t', ty, pos, af, none⟩ :: rest) L H := WX.eqlS hx hy hd k
theorem nS {a b : ByteArray} [ht : TU P t .string] (k : WX q g P ops Q n rest ((d, .bool (decide (¬ a = b))) :: L) H) (hx : ev L x = some (.string a) := by exact rfl) (hy : ev L y = some (.string b) := by exact rfl) (hd : Nat.blt d n = true := by exact rfl) :
  WX q g P ops Q n (⟨some d, .binOp .neq t x y t', ty, pos, af, none⟩ :: rest) L H := WX.neqS hx hy hd k
theorem nD {p : Prop} [Decidable p] (k : WX q g P ops Q n rest ((d, .bool (decide (¬ p))) :: L) H) (hx : ev L x = some (.bool (decide p)) := by exact rfl) (hd : Nat.blt d n = true := by exact rfl) : WX q g P ops Q n (⟨some d, .unOp .not t x, ty, pos, af, none⟩ :: rest) L H := WX.notD hx hd k
theorem nt {b : Bool} (k : WX q g P ops Q n rest ((d, .bool (!b)) :: L) H) (hx : ev L x = some (.bool b) := by exact rfl) (hd : Nat.blt d n = true := by exact rfl) : WX q g P ops Q n (⟨some d, .unOp .not t x, ty, pos, af, none⟩ :: rest) L H := WX.not hx hd k
theorem l1 {e : Nat} {p : Option Addr} {l c : Nat} [ht : TU P t (.slice e)] (k : WX q g P ops Q n rest ((d, .int .i64 l) :: L) H) (hx : ev L x = some (.slice p l c) := by exact rfl) (hd : Nat.blt d n = true := by exact rfl) :
  WX q g P ops Q n (⟨some d, .call ⟨.builtin .len, #[x], #[t]⟩, ty, pos, af, none⟩ :: rest) L H := WX.len hx hd k
theorem lS {s : ByteArray} [ht : TU P t .string] (k : WX q g P ops Q n rest ((d, .int .i64 s.size) :: L) H) (hx : ev L x = some (.string s) := by exact rfl) (hd : Nat.blt d n = true := by exact rfl) :
  WX q g P ops Q n (⟨some d, .call ⟨.builtin .len, #[x], #[t]⟩, ty, pos, af, none⟩ :: rest) L H := WX.lenS hx hd k
theorem mi {i j : Int} {kd : IntKind} {ts : Array TypeId} (k : WX q g P ops Q n rest ((d, .int kd (if j < i then j else i)) :: L) H) (hx : ev L x = some (.int kd i) := by exact rfl) (hy : ev L y = some (.int kd j) := by exact rfl) (hd : Nat.blt d n = true := by exact rfl) :
  WX q g P ops Q n (⟨some d, .call ⟨.builtin .min, #[x, y], ts⟩, ty, pos, af, none⟩ :: rest) L H := WX.min hx hy hd k
theorem ma {i j : Int} {kd : IntKind} {ts : Array TypeId} (k : WX q g P ops Q n rest ((d, .int kd (if j > i then j else i)) :: L) H) (hx : ev L x = some (.int kd i) := by exact rfl) (hy : ev L y = some (.int kd j) := by exact rfl) (hd : Nat.blt d n = true := by exact rfl) :
  WX q g P ops Q n (⟨some d, .call ⟨.builtin .max, #[x, y], ts⟩, ty, pos, af, none⟩ :: rest) L H := WX.max hx hy hd k
theorem ex {i : Nat} {vs : List Value} (k : WX q g P ops Q n rest ((d, v) :: L) H) (hx : ev L x = some (.tuple vs.toArray) := by exact rfl) (hi : vs[i]? = some v := by exact rfl) (hd : Nat.blt d n = true := by exact rfl) :
  WX q g P ops Q n (⟨some d, .extract x i, ty, pos, af, none⟩ :: rest) L H := WX.extract hx hi hd k
end vals
-- memory
section mem
variable {x y z : Operand} {t t' b i T m : Nat} {ag : Bool} {cs cs' vs : List Value} {fr : Nat × Nat} {K : Obj → HH}
theorem ld [ht : TL P t 1 false] (hx : ev L x = some (.pointer (some ⟨b, i, none⟩))) [hf : Foc b (.cells (List.toArray cs) T fr) H K] (k : WX q g P ops Q n rest ((d, v) :: L) H) (hc : cs[i]? = some v := by exact rfl) (hd : Nat.blt d n = true := by exact rfl) :
  WX q g P ops Q n (⟨some d, .load t x, ty, pos, af, none⟩ :: rest) L H := WX.load hx hc hd k
theorem lA [ht : TL P t m true] (hx : ev L x = some (.pointer (some ⟨b, i, none⟩))) [hf : Foc b (.cells (List.toArray cs) T fr) H K] (k : WX q g P ops Q n rest ((d, .agg vs.toArray) :: L) H)
  (hc : (cs.drop i).take m = vs := by first | exact whole rfl | (simp only [Enc.enc, Nat.zero_add, Nat.reduceAdd, drop_zero, drop_succ_cons, take_succ_cons, take_zero]; rfl)) (hl : vs.length = m := by exact rfl) (hd : Nat.blt d n = true := by exact rfl) :
  WX q g P ops Q n (⟨some d, .load t x, ty, pos, af, none⟩ :: rest) L H := WX.loadA hx hc hl hd k
theorem st [ht : TL P t 1 false] (hx : ev L x = some (.pointer (some ⟨b, i, none⟩))) (hy : ev L y = some v) [hf : Foc b (.cells (List.toArray cs) T (0, 0)) H K] (k : WX false g P ops Q n rest L (K (.cells (List.toArray cs') T (0, 0))))
  (e : cs.set i v = cs' := by first | (simp only [set_cons_zero, set_cons_succ, Nat.zero_add, Nat.reduceAdd]; rfl) | exact rfl) (h1 : v.oneCell' = true := by exact rfl) (hb : Nat.blt i cs.length = true := by exact rfl) :
  WX false g P ops Q n (⟨none, .store t x y, ty, pos, af, none⟩ :: rest) L H := by subst e; exact WX.store hx hy h1 hb k
theorem sG [ht : TL P t m ag] (hx : ev L x = some (.pointer (some ⟨b, i, none⟩))) (hy : ev L y = some v) [hf : Foc b (.cells (List.toArray cs) T (0, 0)) H K] (k : WX false g P ops Q n rest L (K (.cells (List.toArray cs') T (0, 0))))
  (hv : v.cells = vs.toArray := by exact rfl) (e : setAt cs i vs = cs' := by first | exact setAt_whole rfl | (simp only [setAt, set_cons_zero, set_cons_succ, Nat.zero_add, Nat.reduceAdd]; rfl) | exact rfl) (hl : vs.length = m := by exact rfl) (h1 : oneCells vs = true := by exact rfl)
  (hb : Nat.ble (i + vs.length) cs.length = true := by exact rfl) : WX false g P ops Q n (⟨none, .store t x y, ty, pos, af, none⟩ :: rest) L H := by subst e; exact WX.storeG hx hy hv hl h1 hb k
theorem bx (hx : ev L x = some v) (k : ∀ b, WX false g P ops Q n rest ((d, .pointer (some ⟨b, 0, none⟩)) :: L) ([(b, .cells (List.toArray vs) t (0, 0))] :: H)) (hv : v.cells = vs.toArray := by exact rfl) (hd : Nat.blt d n = true := by exact rfl) :
  WX false g P ops Q n (⟨some d, .box t x, ty, pos, af, none⟩ :: rest) L H := WX.box hx hv hd k
theorem al [hz : TZ P t vs] (k : ∀ b, WX false g P ops Q n rest ((d, .pointer (some ⟨b, 0, none⟩)) :: L) ([(b, .cells (List.toArray vs) t (0, 0))] :: H)) (hd : Nat.blt d n = true := by exact rfl) : WX false g P ops Q n (⟨some d, .alloc t, ty, pos, af, none⟩ :: rest) L H := WX.alloc hd k
theorem bd {parts : List (Nat × Operand)} {zs cs0 : List Value} {pl : List (Nat × Nat)} [hz : TZ P t zs] [hp : TP P t pl] (k : WX q g P ops Q n rest ((d, .agg cs.toArray) :: L) H) (hx : evs L (parts.map (·.2)) = some vs := by exact rfl)
  (hf' : fillL pl zs ((parts.map (·.1)).zip vs) = some cs0 := by exact rfl) (e : cs0 = cs := by first | (simp only [setAt, Value.cells, set_cons_zero, set_cons_succ]; rfl) | exact rfl) (hd : Nat.blt d n = true := by exact rfl) :
  WX q g P ops Q n (⟨some d, .build t parts.toArray, ty, pos, af, none⟩ :: rest) L H := by subst e; exact WX.build hx hf' hd k
theorem iP {len e off : Nat} {j : Int} {kd : IntKind} [ht : TU P t (.array len e)] [hl : TL P e m ag] (k : WX q g P ops Q n rest ((d, .pointer (some ⟨b, off + j.toNat * m, none⟩)) :: L) H) (hx : ev L x = some (.pointer (some ⟨b, off, none⟩)) := by exact rfl)
  (hi : ev L y = some (.int kd j) := by exact rfl) (h0 : 0 ≤ j ∧ j < len := by omega) (hd : Nat.blt d n = true := by exact rfl) : WX q g P ops Q n (⟨some d, .indexAddr t x y, ty, pos, af, none⟩ :: rest) L H := WX.idxP hx hi h0 hd k
end mem
-- slices
section sls
variable {α : Type} [E : Enc α] {xs : List α} {y : α} {h : Hp} {K : Hp → HH} {x i : Operand} {t f m off off' k e : Nat} {ag : Bool} {kd : IntKind} {u : Value}
theorem ln [ht : TU P t (.slice e)] (hx : ev L x = some v) (hs : Rs xs v h) (kk : WX q g P ops Q n rest ((d, .int .i64 xs.length) :: L) H) (hd : Nat.blt d n = true := by exact rfl) : WX q g P ops Q n (⟨some d, .call ⟨.builtin .len, #[x], #[t]⟩, ty, pos, af, none⟩ :: rest) L H := WX.lenSl hx hs hd kk
theorem ix [ht : TU P t (.slice e)] [hl : TL P e m ag] (hx : ev L x = some v) (hi : ev L i = some (.int kd (k : Int))) (kk : WX q g P ops Q n rest ((d, eptr v k m 0) :: L) H) (hs : Rs xs v h := by assumption) (hk : xs[k]? = some y := by assumption) (hd : Nat.blt d n = true := by exact rfl) :
  WX q g P ops Q n (⟨some d, .indexAddr t x i, ty, pos, af, none⟩ :: rest) L H := WX.idx hx hi hs hk hd kk
theorem iI {j : Int} [ht : TU P t (.slice e)] [hl : TL P e m ag] (hx : ev L x = some v) (hi : ev L i = some (.int kd j)) (kk : WX q g P ops Q n rest ((d, eptr v j.toNat m 0) :: L) H) (hs : Rs xs v h := by assumption) (h0 : 0 ≤ j := by omega) (hk : xs[j.toNat]? = some y := by assumption) (hd : Nat.blt d n = true := by exact rfl) :
  WX q g P ops Q n (⟨some d, .indexAddr t x i, ty, pos, af, none⟩ :: rest) L H := WX.idxI hx hi hs h0 hk hd kk
theorem fE (hx : ev L x = some (eptr v k m off)) [hf : TF P t f off'] (kk : WX q g P ops Q n rest ((d, eptr v k m (off + off')) :: L) H) (hs : Rs xs v h := by assumption) (hk : xs[k]? = some y := by assumption) (hd : Nat.blt d n = true := by exact rfl) :
  WX q g P ops Q n (⟨some d, .fieldAddr t x f, ty, pos, af, none⟩ :: rest) L H := WX.fieldE hx hs hk hd kk
theorem lE [ht : TL P t 1 false] (hx : ev L x = some (eptr v k m off)) (hs : Rs xs v h) [hw : Swp h H K] (kk : WX q g P ops Q n rest ((d, u) :: L) H) (hk : xs[k]? = some y := by assumption) (hms : m = Enc.sz α := by exact rfl) (ho : (Enc.enc y)[off]? = some u := by exact rfl) (hd : Nat.blt d n = true := by exact rfl) :
  WX q g P ops Q n (⟨some d, .load t x, ty, pos, af, none⟩ :: rest) L H := WX.loadE hx hs hk hms ho hd kk
theorem lF {mm : Nat} {us : List Value} [ht : TL P t mm true] (hx : ev L x = some (eptr v k m off)) (hs : Rs xs v h) [hw : Swp h H K] (kk : WX q g P ops Q n rest ((d, .agg us.toArray) :: L) H) (hk : xs[k]? = some y := by assumption) (hms : m = Enc.sz α := by exact rfl)
  (ho : ((Enc.enc y).drop off).take mm = us := by first | exact whole rfl | (simp only [Enc.enc, Nat.zero_add, Nat.reduceAdd, drop_zero, drop_succ_cons, take_succ_cons, take_zero]; rfl)) (hl : us.length = mm := by exact rfl) (hd : Nat.blt d n = true := by exact rfl) :
  WX q g P ops Q n (⟨some d, .load t x, ty, pos, af, none⟩ :: rest) L H := WX.loadEA hx hs hk hms ho hl hd kk
theorem sl [ht : TU P t (.slice e)] [hl : TL P e m ag] (hx : ev L x = some v) (hi : ev L i = some (.int kd (k : Int))) (hs : Rs xs v h) (kk : WX q g P ops Q n rest ((d, slTo v k) :: L) H) (hk : k ≤ xs.length := by omega) (hd : Nat.blt d n = true := by exact rfl) :
  WX q g P ops Q n (⟨some d, .slice t x none (some i) none, ty, pos, af, none⟩ :: rest) L H := WX.slTo hx hi hs hk hd kk
theorem cv {xs : List UInt8} {t' : Nat} [h1 : TU P t (.slice e)] [h2 : TU P e (.int .u8)] [h3 : TU P t' .string] (hx : ev L x = some v) (hs : Rs xs v h) [hw : Swp h H K] (kk : WX q g P ops Q n rest ((d, .string (strOf xs)) :: L) H) (hd : Nat.blt d n = true := by exact rfl) :
  WX q g P ops Q n (⟨some d, .convert t t' x, ty, pos, af, none⟩ :: rest) L H := WX.strOf hx hs hd kk
end sls
end
-- a cut: what stands behind a piece, however it got there
section cuts
variable {g : World} {P : Program} {ops : Array Oper} {Q Q' : Exit → Act → World → Prop} {n : Nat} {os : List Oper} {L : Fm} {H : HH}
def At (g : World) (n : Nat) (L : Fm) (H : HH) : Act → World → Prop := fun a w => Fr n L a ∧ on g H.flatten w
end cuts
-- many steps at once
structure Hid (B : Prop) : Prop where
 out : B
theorem stp {A B : Prop} (q : B) (h : Hid B → A := by intro q; (first | apply go | refine mv ?_ | (refine I.ld ?_; first | refine ld rfl ?_ | refine lE rfl (by assumption) ?_ | refine lA rfl ?_ | refine lF rfl (by assumption) ?_) | refine asg ?_ | (refine I.gd ?_; first | refine gy ?_ | refine gn ?_ | refine gnN ?_ | refine gu ?_ | refine guN ?_ | refine gT ?_ | refine gF ?_) | (refine I.fa ?_; first | refine fa ?_ | refine fE rfl ?_) | (refine I.nc ?_; first | refine nc ?_ | refine nE rfl ?_) | (refine I.bin ?_; first | refine cm rfl rfl ?_ | refine ad ?_ | refine su ?_ | refine np rfl rfl ?_ | refine eS ?_ | refine nS ?_) | (refine I.pk ?_; first | refine pT ?_ | refine pF ?_) | (refine I.cond ?_; first | refine cT ?_ | refine cF ?_ | refine cP ?_ | refine cN ?_) | refine mN ?_ | refine WX.nil ?_ | refine mU ?_ | refine mA ?_ | (refine I.bi ?_; first | refine ln rfl (by assumption) ?_ | refine l1 ?_ | refine lS ?_ | refine mi ?_ | refine ma ?_) | (refine I.ix ?_; first | refine ix rfl rfl ?_ | refine iI rfl rfl ?_ | refine iP ?_) | (refine I.st ?_; first | refine st rfl rfl ?_ | refine sG rfl rfl ?_) | refine ex ?_ | (refine I.un ?_; first | refine nD ?_ | refine nt ?_) | refine zY ?_ | refine bd ?_ | refine sl rfl rfl (by assumption) ?_ | refine cv rfl (by assumption) ?_); exact q.out) : A := h ⟨q⟩
theorem run {A B : Prop} (q : B) (h : Hid B → A := by intro q; (first | apply go | refine mv ?_ | (refine I.ld ?_; first | refine ld rfl ?_ | refine lE rfl (by assumption) ?_ | refine lA rfl ?_ | refine lF rfl (by assumption) ?_) | refine asg ?_ | (refine I.gd ?_; first | refine gy ?_ | refine gn ?_ | refine gnN ?_ | refine gu ?_ | refine guN ?_ | refine gT ?_ | refine gF ?_) | (refine I.fa ?_; first | refine fa ?_ | refine fE rfl ?_) | (refine I.nc ?_; first | refine nc ?_ | refine nE rfl ?_) | (refine I.bin ?_; first | refine cm rfl rfl ?_ | refine ad ?_ | refine su ?_ | refine np rfl rfl ?_ | refine eS ?_ | refine nS ?_) | (refine I.pk ?_; first | refine pT ?_ | refine pF ?_) | (refine I.cond ?_; first | refine cT ?_ | refine cF ?_ | refine cP ?_ | refine cN ?_) | refine mN ?_ | refine WX.nil ?_ | refine mU ?_ | refine mA ?_ | (refine I.bi ?_; first | refine ln rfl (by assumption) ?_ | refine l1 ?_ | refine lS ?_ | refine mi ?_ | refine ma ?_) | (refine I.ix ?_; first | refine ix rfl rfl ?_ | refine iI rfl rfl ?_ | refine iP ?_) | (refine I.st ?_; first | refine st rfl rfl ?_ | refine sG rfl rfl ?_) | refine ex ?_ | (refine I.un ?_; first | refine nD ?_ | refine nt ?_) | refine zY ?_ | refine bd ?_ | refine sl rfl rfl (by assumption) ?_ | refine cv rfl (by assumption) ?_); (repeat' (first | apply go | refine mv ?_ | (refine I.ld ?_; first | refine ld rfl ?_ | refine lE rfl (by assumption) ?_ | refine lA rfl ?_ | refine lF rfl (by assumption) ?_) | refine asg ?_ | (refine I.gd ?_; first | refine gy ?_ | refine gn ?_ | refine gnN ?_ | refine gu ?_ | refine guN ?_ | refine gT ?_ | refine gF ?_) | (refine I.fa ?_; first | refine fa ?_ | refine fE rfl ?_) | (refine I.nc ?_; first | refine nc ?_ | refine nE rfl ?_) | (refine I.bin ?_; first | refine cm rfl rfl ?_ | refine ad ?_ | refine su ?_ | refine np rfl rfl ?_ | refine eS ?_ | refine nS ?_) | (refine I.pk ?_; first | refine pT ?_ | refine pF ?_) | (refine I.cond ?_; first | refine cT ?_ | refine cF ?_ | refine cP ?_ | refine cN ?_) | refine mN ?_ | refine WX.nil ?_ | refine mU ?_ | refine mA ?_ | (refine I.bi ?_; first | refine ln rfl (by assumption) ?_ | refine l1 ?_ | refine lS ?_ | refine mi ?_ | refine ma ?_) | (refine I.ix ?_; first | refine ix rfl rfl ?_ | refine iI rfl rfl ?_ | refine iP ?_) | (refine I.st ?_; first | refine st rfl rfl ?_ | refine sG rfl rfl ?_) | refine ex ?_ | (refine I.un ?_; first | refine nD ?_ | refine nt ?_) | refine zY ?_ | refine bd ?_ | refine sl rfl rfl (by assumption) ?_ | refine cv rfl (by assumption) ?_)); exact q.out) : A := h ⟨q⟩
theorem runS {A B : Prop} (q : B) (h : Hid B → A := by intro q; (first | apply go | refine mv ?_ | (refine I.ld ?_; first | refine ld rfl ?_ | refine lE rfl (by assumption) ?_) | refine asg ?_ | (refine I.gd ?_; first | refine gy ?_ | refine gn ?_ | refine gnN ?_ | refine gu ?_ | refine guN ?_ | refine gT ?_ | refine gF ?_) | (refine I.fa ?_; first | refine fa ?_ | refine fE rfl ?_) | (refine I.nc ?_; first | refine nc ?_ | refine nE rfl ?_) | (refine I.bin ?_; first | refine cm rfl rfl ?_ | refine ad ?_ | refine su ?_ | refine np rfl rfl ?_ | refine eS ?_ | refine nS ?_) | (refine I.pk ?_; first | refine pT ?_ | refine pF ?_) | (refine I.cond ?_; first | refine cT ?_ | refine cF ?_ | refine cP ?_ | refine cN ?_) | refine mN ?_ | refine WX.nil ?_ | refine mU ?_ | refine mA ?_ | (refine I.bi ?_; first | refine ln rfl (by assumption) ?_ | refine l1 ?_ | refine lS ?_ | refine mi ?_ | refine ma ?_) | (refine I.ix ?_; first | refine ix rfl rfl ?_ | refine iI rfl rfl ?_ | refine iP ?_) | refine ex ?_ | (refine I.un ?_; first | refine nD ?_ | refine nt ?_) | refine zY ?_ | refine sl rfl rfl (by assumption) ?_ | refine cv rfl (by assumption) ?_); (repeat' (first | apply go | refine mv ?_ | (refine I.ld ?_; first | refine ld rfl ?_ | refine lE rfl (by assumption) ?_) | refine asg ?_ | (refine I.gd ?_; first | refine gy ?_ | refine gn ?_ | refine gnN ?_ | refine gu ?_ | refine guN ?_ | refine gT ?_ | refine gF ?_) | (refine I.fa ?_; first | refine fa ?_ | refine fE rfl ?_) | (refine I.nc ?_; first | refine nc ?_ | refine nE rfl ?_) | (refine I.bin ?_; first | refine cm rfl rfl ?_ | refine ad ?_ | refine su ?_ | refine np rfl rfl ?_ | refine eS ?_ | refine nS ?_) | (refine I.pk ?_; first | refine pT ?_ | refine pF ?_) | (refine I.cond ?_; first | refine cT ?_ | refine cF ?_ | refine cP ?_ | refine cN ?_) | refine mN ?_ | refine WX.nil ?_ | refine mU ?_ | refine mA ?_ | (refine I.bi ?_; first | refine ln rfl (by assumption) ?_ | refine l1 ?_ | refine lS ?_ | refine mi ?_ | refine ma ?_) | (refine I.ix ?_; first | refine ix rfl rfl ?_ | refine iI rfl rfl ?_ | refine iP ?_) | refine ex ?_ | (refine I.un ?_; first | refine nD ?_ | refine nt ?_) | refine zY ?_ | refine sl rfl rfl (by assumption) ?_ | refine cv rfl (by assumption) ?_)); exact q.out) : A := h ⟨q⟩
theorem D.rd {g : World} {Q : Exit → Act → World → Prop} {n : Nat} {L : Fm} {H : HH} {α : Type} {p : α → Prop} {Li : α → Fm} {Hi : α → HH} {μ : α → Nat} {m : Nat} (y : α) (hp : p y) (hm : μ y < m) (f : Fsub L (Li y) := by repeat (first | exact Fsub.nil | refine Fsub.cons rfl ?_)) (s : Hsub H (Hi y) := by exact Hsub.of_picks inferInstance) :
 D g (Exit.then (Round g p Li Hi μ n m) Q) .normal n L H := D.round y hp hm f s
structure Me where
 k : Int
 v : Value
 born : Nat
def Me.e (x : Me) : MapEntry := { key := .int .i64 x.k, val := x.v, born := x.born }
def mob (l : List Me) (c : Nat) : Obj := .map (l.map Me.e).toArray c
def itob (b c : Nat) (vis : List Me) : Obj := .mapIter (some b) c (vis.map (·.born)).toArray c
structure MpOk (l : List Me) (c : Nat) : Prop where
 ks : (l.map (·.k)).Nodup
 bs : (l.map (·.born)).Nodup
 lt : ∀ x ∈ l, x.born < c
def mfind (l : List Me) (k : Int) : Option Me := l.find? fun x => decide (x.k = k)
def mval (l : List Me) (k : Int) (z : Value) : Value := match mfind l k with
 | some x => x.v
 | none => z
class TZV (P : Program) (t : Nat) (z : outParam Value) : Prop where
 h : ((P.info? t).bind (·.zero)) = some z
theorem TZV.run {P : Program} {t : Nat} {z : Value} (h : TZV P t z) {w : World} : (zeroValue t).run P w = .ok z w := by
 have := h.h
 cases hi : P.info? t with
 | none => simp [hi] at this
 | some i => simp only [hi, Option.bind_some] at this; simp [zeroValue, typeInfo, hi, this]
theorem MpOk.new : MpOk [] 0 := ⟨by simp, by simp, by simp⟩
theorem MpOk.put {l : List Me} {c : Nat} (h : MpOk l c) {k : Int} (hk : mfind l k = none) (v : Value) : MpOk (l ++ [⟨k, v, c⟩]) (c + 1) := by
 refine ⟨?_, ?_, fun x hx => ?_⟩
 ·rw [map_append, nodup_append]
  refine ⟨h.ks, by simp, fun a ha b hb => ?_⟩
  simp at hb
  subst hb
  rintro rfl
  obtain ⟨x, hx, hxk⟩ := mem_map.1 ha
  have := List.find?_eq_none.1 hk x hx
  simp [hxk] at this
 ·rw [map_append, nodup_append]
  refine ⟨h.bs, by simp, fun a ha b hb => ?_⟩
  simp at hb
  subst hb
  obtain ⟨x, hx, hxb⟩ := mem_map.1 ha
  have := h.lt x hx
  omega
 ·rcases mem_append.1 hx with hx | hx
  ·have := h.lt x hx; omega
  ·rw [mem_singleton] at hx; subst hx; simp
theorem MpOk.del {l : List Me} {c : Nat} (h : MpOk l c) (p : Me → Bool) : MpOk (l.filter p) c :=
 ⟨h.ks.sublist (filter_sublist.map _), h.bs.sublist (filter_sublist.map _), fun x hx => h.lt x (mem_filter.1 hx).1⟩
def fnd (k : Int) : List Me → Nat → Option (Nat × Value)
 | [], _ => none
 | x :: r, i => if k = x.k then some (i, x.v) else fnd k r (i + 1)
theorem findNow_fnd {kd : IntKind} {k : Int} : ∀ (l : List Me) (i : Nat), Instr.findNow (.int kd) (.int .i64 k) (l.map Me.e) i = some (fnd k l i)
 | [], i => rfl
 | x :: r, i => by
  simp only [map_cons, Instr.findNow, Me.e, Instr.sameNow, if_true, fnd]
  by_cases h : k = x.k
  ·simp [h]
  ·have : (k == x.k) = false := by simpa using h
   simp only [this, if_neg h]
   exact findNow_fnd r (i + 1)
theorem fnd_val {k : Int} : ∀ (l : List Me) (i : Nat), (fnd k l i).map Prod.snd = (mfind l k).map (·.v)
 | [], i => rfl
 | x :: r, i => by
  simp only [fnd, mfind, List.find?_cons]
  by_cases h : k = x.k
  ·simp [h]
  ·have h2 : ¬ x.k = k := fun e => h e.symm
   simp only [if_neg h, decide_eq_false h2]
   exact fnd_val r (i + 1)
theorem fnd_none {k : Int} {l : List Me} (h : mfind l k = none) (i : Nat) : fnd k l i = none := by
 have := fnd_val (k := k) l i
 rw [h] at this
 cases hf : fnd k l i with
 | none => rfl
 | some x => rw [hf] at this; cases this
theorem fnd_erase {k : Int} : ∀ (l : List Me) (i j : Nat) (v : Value), (l.map (·.k)).Nodup → fnd k l i = some (j, v) → i ≤ j ∧ j - i < l.length ∧ l.eraseIdx (j - i) = l.filter fun x => decide (x.k ≠ k)
 | [], i, j, v, _, h => by cases h
 | x :: r, i, j, v, hn, h => by
  simp only [fnd] at h
  rw [map_cons, nodup_cons] at hn
  by_cases hk : k = x.k
  ·rw [if_pos hk] at h
   cases h
   refine ⟨Nat.le_refl _, by simp, ?_⟩
   rw [Nat.sub_self, eraseIdx_zero, tail_cons, filter_cons]
   rw [if_neg (by simp [hk])]
   symm
   rw [filter_eq_self]
   intro y hy
   have : ¬ y.k = x.k := fun e => hn.1 (mem_map.2 ⟨y, hy, e⟩)
   simpa [hk] using this
  ·rw [if_neg hk] at h
   obtain ⟨h1, h2, h3⟩ := fnd_erase r (i + 1) j v hn.2 h
   refine ⟨by omega, by simp; omega, ?_⟩
   rw [show j - i = (j - (i + 1)) + 1 by omega, eraseIdx_cons_succ, h3, filter_cons, if_pos (by simpa using fun e => hk e.symm)]
theorem born_inj {l : List Me} (hn : (l.map (·.born)).Nodup) {a b : Me} (ha : a ∈ l) (hb : b ∈ l) (hab : a.born = b.born) : a = b := by
 induction l with
 | nil => cases ha
 | cons y r ih =>
  rw [map_cons, nodup_cons] at hn
  rcases mem_cons.1 ha with e1 | ha' <;> rcases mem_cons.1 hb with e2 | hb'
  ·rw [e1, e2]
  ·exact absurd (mem_map.2 ⟨b, hb', by rw [← hab, e1]⟩) hn.1
  ·exact absurd (mem_map.2 ⟨a, ha', by rw [hab, e2]⟩) hn.1
  ·exact ih hn.2 ha' hb'
section
variable {g : World} {P : Program} {ops : Array Oper} {Q : Exit → Act → World → Prop} {n : Nat} {rest : List Oper} {L : Fm} {H : HH} {q : Bool}
variable {d : Nat} {ty : TypeId} {pos : String} {af : Array Edge} {v : Value}
variable {x i y : Operand} {t kt et b c : Nat} {k : Int} {l : List Me} {K : Obj → HH}
def notCells : Obj → Bool
 | .cells .. => false
 | _ => true
theorem run_getObj_of {w : World} {b : Nat} {o : Obj} (h : w.heap[b]? = some o) (hn : notCells o = true) : (getObj b).run P w = .ok o w := by
 simp only [getObj, Sem.run]
 rw [h]
 cases o <;> first | rfl | cases hn
theorem run_setObj_of {w : World} {b : Nat} {o o' : Obj} (h : w.heap[b]? = some o) (hn : notCells o = true) : (setObj b o').run P w = .ok () { w with heap := w.heap.setIfInBounds b o' } := by
 show (match w.heap[b]? with
  | some (.cells ..) => Result.halt (.stuck "setObj: a row of cells") w
  | some _ => (Sem.pure ()).run P { w with heap := w.heap.setIfInBounds b o' }
  | none => .halt (.stuck "setObj: no such block") w) = _
 rw [h]
 cases o <;> first | rfl | cases hn
theorem run_findKey {w : World} [hk : TU P kt (.int .i64)] : (Instr.findKey kt (.int .i64 k) (l.map Me.e)).run P w = .ok (fnd k l 0) w := by
 unfold Instr.findKey
 rw [Sem.run_bind, hk.run]
 simp only [Result.andThen_ok, findNow_fnd]
 rfl
theorem run_checkKey {w : World} {e : Bool} [hk : TU P kt (.int .i64)] : (Instr.checkKey e 10000 kt (.int .i64 k)).run P w = .ok () w := by
 unfold Instr.checkKey
 simp [hk.run]
theorem run_getMap {w : World} (hh : w.heap[b]? = some (mob l c)) : (getObj b).run P w = .ok (.map (l.map Me.e).toArray c) w := by
 exact run_getObj_of hh rfl
theorem WX.makeMap (hd : Nat.blt d n = true) (kk : ∀ b, WX false g P ops Q n rest ((d, .map (some b)) :: L) ([(b, mob [] 0)] :: H)) : WX false g P ops Q n (⟨some d, .makeMap t none, ty, pos, af, none⟩ :: rest) L H :=
 WX.eff hd (fun a w ha hw => ⟨.map (some w.heap.size), w.alloc (mob [] 0), _, by simp [execOp, Instr.makeMap, mob], by simpa using hw.alloc (mob [] 0), kk w.heap.size⟩)
theorem WX.lookup {z : Value} (hx : ev L x = some (.map (some b))) (hi : ev L i = some (.int .i64 k)) [ht : TU P t (.map kt et)] [hk : TU P kt (.int .i64)] [hz : TZV P et z] [hf : Foc b (mob l c) H K] (hd : Nat.blt d n = true)
  (kk : WX q g P ops Q n rest ((d, mval l k z) :: L) H) : WX q g P ops Q n (⟨some d, .lookup t x i false, ty, pos, af, none⟩ :: rest) L H :=
 WX.val (fun a ha w hw => by
  have h1 := run_getMap (P := P) (hf.heap hw)
  have h2 : ((l.map Me.e).toArray.toList) = l.map Me.e := rfl
  have h3 := fnd_val (k := k) l 0
  simp only [execOp, ha.ev hx, ha.ev hi, Instr.lookup, Sem.run_bind, ht.run, h1, Result.andThen_ok, run_checkKey, h2, run_findKey, Sem.run_pure]
  unfold mval
  cases hf : fnd k l 0 with
  | none =>
   rw [hf] at h3
   cases hm : mfind l k with
   | none => simp [hz.run]
   | some x => rw [hm] at h3; cases h3
  | some jv =>
   rw [hf] at h3
   cases hm : mfind l k with
   | none => rw [hm] at h3; cases h3
   | some x =>
    rw [hm] at h3
    simp only [Option.map_some, Option.some.injEq] at h3
    simp [h3]) hd kk
theorem WX.lenMap (hx : ev L x = some (.map (some b))) [ht : TU P t (.map kt et)] [hf : Foc b (mob l c) H K] (hd : Nat.blt d n = true) (kk : WX q g P ops Q n rest ((d, .int .i64 l.length) :: L) H) :
  WX q g P ops Q n (⟨some d, .call ⟨.builtin .len, #[x], #[t]⟩, ty, pos, af, none⟩ :: rest) L H :=
 WX.val (fun a ha w hw => run_bi (args := [x]) (vs := [.map (some b)]) (by simp [ha.ev hx]) (by
  have h1 := run_getMap (P := P) (hf.heap hw)
  simp [builtin, Builtin.len_, ht.run, h1, goInt])) hd kk
theorem map_set {w : World} {o o' : Obj} (hf : Foc b o H K) (hno : notCells o = true) (hw : on g H.flatten w) : ∃ w', (setObj b o').run P w = .ok () w' ∧ on g (K o').flatten w' := by
 refine ⟨{ w with heap := w.heap.setIfInBounds b o' }, run_setObj_of (hf.heap hw) hno, ?_⟩
 have hlt : b < w.heap.size := hw.lt hf.mem
 exact hf.set hw ⟨rfl, rfl, rfl, by simp⟩ (by simp [hlt]) (fun k hk => by rw [Array.getElem?_setIfInBounds_ne (fun e => hk e.symm)])
theorem WX.mapPut (hx : ev L x = some (.map (some b))) (hi : ev L i = some (.int .i64 k)) (hy : ev L y = some v) [ht : TU P t (.map kt et)] [hk : TU P kt (.int .i64)] [hf : Foc b (mob l c) H K] (hn : mfind l k = none)
  (kk : WX false g P ops Q n rest L (K (mob (l ++ [⟨k, v, c⟩]) (c + 1)))) : WX false g P ops Q n (⟨none, .mapUpdate t x i y, ty, pos, af, none⟩ :: rest) L H :=
 WX.effS (fun a w ha hw => by
  have h1 := run_getMap (P := P) (hf.heap hw)
  have h2 : ((l.map Me.e).toArray.toList) = l.map Me.e := rfl
  obtain ⟨w', e1, e2⟩ := map_set (P := P) (o' := mob (l ++ [⟨k, v, c⟩]) (c + 1)) hf rfl hw
  refine ⟨w', _, ?_, e2, kk⟩
  have e3 : (Obj.map ((l.map Me.e).toArray.push { key := .int .i64 k, val := v, born := c }) (c + 1)) = mob (l ++ [⟨k, v, c⟩]) (c + 1) := by simp [mob, Me.e]
  simp only [execOp, ha.ev hx, ha.ev hi, ha.ev hy, Instr.mapUpdate, Sem.run_bind, ht.run, h1, Result.andThen_ok, run_checkKey, h2, run_findKey, fnd_none hn, e3, e1, Sem.run_pure])
theorem WX.mapDel (hx : ev L x = some (.map (some b))) (hi : ev L i = some (.int .i64 k)) [ht : TU P t (.map kt et)] [hk : TU P kt (.int .i64)] [hf : Foc b (mob l c) H K] (hn : (l.map (·.k)).Nodup)
  (kk : WX false g P ops Q n rest L (K (mob (l.filter fun x => decide (x.k ≠ k)) c))) : WX false g P ops Q n (⟨none, .call ⟨.builtin .delete, #[x, i], #[t, kt]⟩, ty, pos, af, none⟩ :: rest) L H :=
 WX.effN (fun a w ha hw => by
  have h1 := run_getMap (P := P) (hf.heap hw)
  have h2 : ((l.map Me.e).toArray.toList) = l.map Me.e := rfl
  obtain ⟨w', e1, e2⟩ := map_set (P := P) (o' := mob (l.filter fun x => decide (x.k ≠ k)) c) hf rfl hw
  refine ⟨.tuple #[], w', _, run_bi (args := [x, i]) (vs := [.map (some b), .int .i64 k]) (by simp [ha.ev hx, ha.ev hi]) ?_, e2, kk⟩
  have hc : (Instr.checkKey ((l.map Me.e).toArray.isEmpty) 10000 kt (.int .i64 k)).run P w = .ok () w := run_checkKey
  cases hf2 : fnd k l 0 with
  | none =>
   have hno : l.filter (fun x => decide (x.k ≠ k)) = l := by
    rw [filter_eq_self]
    intro y hy
    have h3 := fnd_val (k := k) l 0
    rw [hf2] at h3
    cases hm : mfind l k with
    | some x => rw [hm] at h3; cases h3
    | none => have := List.find?_eq_none.1 hm y hy; simpa using this
   rw [hno] at e1
   have e1' : (setObj b (.map (l.map Me.e).toArray c)).run P w = .ok () w' := e1
   have hd2 : (Builtin.delete_ #[t, kt] ty #[.map (some b), .int .i64 k]).run P w = .ok (.tuple #[]) w' := by
    unfold Builtin.delete_
    simp only [List.getElem?_toArray, List.getElem?_cons_zero, List.getElem?_cons_succ, Sem.run_bind, ht.run, Result.andThen_ok, h1, hc, h2, run_findKey, hf2, e1', Sem.run_pure]
   simp only [builtin, Sem.run_bind, hd2, Result.andThen_ok, Sem.run_pure]
  | some jv =>
   obtain ⟨j, v⟩ := jv
   obtain ⟨h4, h5, h6⟩ := fnd_erase l 0 j v hn hf2
   rw [Nat.sub_zero] at h5 h6
   have e4 : (Obj.map ((l.map Me.e).toArray.eraseIdxIfInBounds j) c) = mob (l.filter fun x => decide (x.k ≠ k)) c := by
    rw [← h6]
    unfold mob
    congr 1
    rw [Array.eraseIdxIfInBounds, dif_pos (by simpa using h5)]
    apply Array.toList_inj.1
    simp [eraseIdx_eq_take_drop_succ, map_take, map_drop]
   have e1' : (setObj b (.map ((l.map Me.e).toArray.eraseIdxIfInBounds j) c)).run P w = .ok () w' := by rw [e4]; exact e1
   have hd2 : (Builtin.delete_ #[t, kt] ty #[.map (some b), .int .i64 k]).run P w = .ok (.tuple #[]) w' := by
    unfold Builtin.delete_
    simp only [List.getElem?_toArray, List.getElem?_cons_zero, List.getElem?_cons_succ, Sem.run_bind, ht.run, Result.andThen_ok, h1, hc, h2, run_findKey, hf2, e1', Sem.run_pure]
   simp only [builtin, Sem.run_bind, hd2, Result.andThen_ok, Sem.run_pure])
-- a range
theorem WX.range (hx : ev L x = some (.map (some b))) [ht : TU P t (.map kt et)] [hf : Foc b (mob l c) H K] (hd : Nat.blt d n = true) (kk : ∀ r, WX false g P ops Q n rest ((d, .pointer (some ⟨r, 0, none⟩)) :: L) ([(r, itob b c [])] :: H)) :
  WX false g P ops Q n (⟨some d, .range t x, ty, pos, af, none⟩ :: rest) L H :=
 WX.eff hd (fun a w ha hw => by
  have h1 := run_getMap (P := P) (hf.heap hw)
  exact ⟨.pointer (some ⟨w.heap.size, 0, none⟩), w.alloc (itob b c []), _, by simp [execOp, ha.ev hx, Instr.range, ht.run, h1, itob], by simpa using hw.alloc (itob b c []), kk w.heap.size⟩)
theorem run_choose_next {m : Nat} (hm : 0 < m) (w : World) : ∃ i w', (choose (.mapNext m)).run P w = .ok i w' ∧ i < m ∧ w'.heap = w.heap ∧ Amb w w' := by
 by_cases h1 : m ≤ 1
 ·refine ⟨0, w, ?_, hm, rfl, Amb.refl w⟩
  simp [Question.forced, h1]
 ·refine ⟨(Question.mapNext m).cut (w.tape w.drawn (.mapNext m)), w.drew, ?_, ?_, rfl, ⟨rfl, rfl, rfl, Nat.le_refl _⟩⟩
  ·simp [Question.forced, h1]
  ·exact Nat.mod_lt _ hm
theorem WX.next {r : Nat} {vis : List Me} {K2 : Obj → HH} (hx : ev L x = some (.pointer (some ⟨r, 0, none⟩))) [hr : Foc r (itob b c vis) H K2] [hf : Foc b (mob l c) H K] (ok : MpOk l c) (hv : ∀ z ∈ vis, z ∈ l) (hd : Nat.blt d n = true)
  (k1 : (∀ z ∈ l, z ∈ vis) → WX false g P ops Q n rest ((d, .tuple #[.bool false]) :: L) H)
  (k2 : ∀ z ∈ l, z ∉ vis → WX false g P ops Q n rest ((d, .tuple #[.bool true, .int .i64 z.k, z.v]) :: L) (K2 (itob b c (vis ++ [z])))) :
  WX false g P ops Q n (⟨some d, .next x false, ty, pos, af, none⟩ :: rest) L H :=
 WX.eff hd (fun a w ha hw => by
  have hb := hf.heap hw
  have hr' := hr.heap hw
  have h1 := run_getMap (P := P) hb
  have h2 : (getObj r).run P w = .ok (itob b c vis) w := run_getObj_of hr' rfl
  have hborn : ∀ z ∈ l, ((vis.map (·.born)).toArray.contains z.born = true ↔ z ∈ vis) := by
   intro z hz
   simp only [contains_toArray, contains_eq_mem, decide_eq_true_eq, mem_map]
   exact ⟨fun ⟨u, hu, he⟩ => born_inj ok.bs (hv u hu) hz he ▸ hu, fun hz => ⟨z, hz, rfl⟩⟩
  have hguard : (!(vis.map (·.born)).toArray.isEmpty && !(l.map Me.e).toArray.isEmpty && (l.map Me.e).toArray.all (fun e => decide (e.born ≥ c))) = false := by
   cases l with
   | nil => simp
   | cons y r =>
    have := ok.lt y mem_cons_self
    have : decide (y.born ≥ c) = false := decide_eq_false (by omega)
    simp [Me.e, this]
  obtain ⟨un, hun⟩ : ∃ un, un = l.filter fun z => !(vis.map (·.born)).toArray.contains z.born := ⟨_, rfl⟩
  have hmem : ∀ z, z ∈ un ↔ z ∈ l ∧ z ∉ vis := by
   intro z
   rw [hun, mem_filter]
   constructor
   ·rintro ⟨h3, h4⟩
    exact ⟨h3, fun h5 => by rw [(hborn z h3).2 h5] at h4; cases h4⟩
   ·rintro ⟨h3, h4⟩
    refine ⟨h3, ?_⟩
    cases hc : (vis.map (·.born)).toArray.contains z.born with
    | false => rfl
    | true => exact absurd ((hborn z h3).1 hc) h4
  have hleft : ((l.map Me.e).toArray.filter fun e => !(vis.map (·.born)).toArray.contains e.born) = (un.map Me.e).toArray := by
   apply Array.toList_inj.1
   rw [Array.toList_filter, filter_map, hun]
   rfl
  have hold : ((un.map Me.e).toArray.filter fun e => decide (e.born < c)) = (un.map Me.e).toArray := by
   apply Array.toList_inj.1
   rw [Array.toList_filter, filter_eq_self]
   intro e he
   obtain ⟨z, hz, rfl⟩ := mem_map.1 he
   exact decide_eq_true (ok.lt z ((hmem z).1 hz).1)
  have hnew : ((un.map Me.e).toArray.filter fun e => decide (e.born ≥ c)) = #[] := by
   apply Array.toList_inj.1
   rw [Array.toList_filter, filter_eq_nil_iff]
   intro e he
   obtain ⟨z, hz, rfl⟩ := mem_map.1 he
   have := ok.lt z ((hmem z).1 hz).1
   simp [Me.e]; omega
  have hsize : 0 < ((if (un.map Me.e).toArray.isEmpty = true then #[none] else #[]) ++ ((un.map Me.e).toArray ++ #[]).map some).size := by
   cases un <;> simp
  obtain ⟨i, w1, c1, c2, c3, c4⟩ := run_choose_next (P := P) hsize w
  have key : (Instr.next (.pointer (some ⟨r, 0, none⟩)) false ty).run P w = (match ((if (un.map Me.e).toArray.isEmpty = true then #[none] else #[]) ++ ((un.map Me.e).toArray ++ #[]).map some)[i]? with
    | some (some e) => (do setObj r (.mapIter (some b) c ((vis.map Me.born).toArray.push e.born) c); pure (.tuple #[.bool true, e.key, e.val]) : Sem Value)
    | some none => pure (.tuple #[.bool false])
    | none => stuck "Next: no such candidate").run P w1 := by
   unfold Instr.next
   simp only [Sem.run_bind, h2, Result.andThen_ok, itob, h1]
   rw [hguard]
   simp only [Bool.false_eq_true, if_false, hleft, hold, hnew, Sem.run_bind, c1, Result.andThen_ok]
   rfl
  cases un with
  | nil =>
   have hi : i = 0 := by simp at c2; exact c2
   subst hi
   refine ⟨.tuple #[.bool false], w1, H, ?_, hw.heap c3 c4, k1 fun z hz => Classical.byContradiction fun h => by have := (hmem z).2 ⟨hz, h⟩; cases this⟩
   simp only [execOp, ha.ev hx, Sem.run_bind]
   rw [key]
   simp
  | cons y rr =>
   have hi : i < (y :: rr).length := by simpa using c2
   obtain ⟨z, hz⟩ : ∃ z, (y :: rr)[i]? = some z := ⟨_, List.getElem?_eq_getElem hi⟩
   obtain ⟨hz1, hz2⟩ := (hmem z).1 (mem_of_getElem? hz)
   have hw1 : on g H.flatten w1 := hw.heap c3 c4
   obtain ⟨w2, e1, e2⟩ := map_set (P := P) (o' := itob b c (vis ++ [z])) hr rfl hw1
   refine ⟨.tuple #[.bool true, .int .i64 z.k, z.v], w2, _, ?_, e2, k2 z hz1 hz2⟩
   simp only [execOp, ha.ev hx, Sem.run_bind]
   rw [key]
   have hget : ((if ((y :: rr).map Me.e).toArray.isEmpty = true then #[none] else #[]) ++ (((y :: rr).map Me.e).toArray ++ #[]).map some)[i]? = some (some z.e) := by
    rw [if_neg (by simp)]
    simp only [append_nil, Array.empty_append, Array.append_empty, Array.getElem?_map, List.getElem?_toArray, List.getElem?_map, hz, Option.map_some]
   rw [hget]
   have e3 : Obj.mapIter (some b) c ((vis.map (·.born)).toArray.push z.e.born) c = itob b c (vis ++ [z]) := by simp [itob, Me.e]
   simp only [e3, Sem.run_bind, e1, Result.andThen_ok, Sem.run_pure]
   rfl)
theorem WX.entry {r : Nat} {vis : List Me} {z : Me} {K2 : Obj → HH} (hx : ev L x = some (.pointer (some ⟨r, 0, none⟩))) [hr : Foc r (itob b c (vis ++ [z])) H K2] [hf : Foc b (mob l c) H K] (ok : MpOk l c) (hz : z ∈ l) (hd : Nat.blt d n = true)
  (kk : WX q g P ops Q n rest ((d, .tuple #[.int .i64 z.k, z.v]) :: L) H) : WX q g P ops Q n (⟨some d, .entry x, ty, pos, af, none⟩ :: rest) L H :=
 WX.val (fun a ha w hw => by
  have h1 := run_getMap (P := P) (hf.heap hw)
  have h2 : (getObj r).run P w = .ok (itob b c (vis ++ [z])) w := run_getObj_of (hr.heap hw) rfl
  have h3 : (((vis ++ [z]).map (·.born)).toArray).back? = some z.born := by simp
  have h4 : (l.map Me.e).toArray.find? (fun e => e.born == z.born) = some z.e := by
   rw [List.find?_toArray, List.find?_map]
   have : l.find? ((fun e => e.born == z.born) ∘ Me.e) = some z := by
    have hmem : ∃ u, l.find? ((fun e => e.born == z.born) ∘ Me.e) = some u := by
     cases hf : l.find? ((fun e => e.born == z.born) ∘ Me.e) with
     | some u => exact ⟨u, rfl⟩
     | none =>
      have := List.find?_eq_none.1 hf z hz
      simp [Me.e] at this
    obtain ⟨u, hu⟩ := hmem
    have h5 := List.find?_some hu
    simp only [Function.comp, Me.e, beq_iff_eq] at h5
    rw [hu, born_inj ok.bs (mem_of_find?_eq_some hu) hz h5]
   rw [this]; rfl
  simp only [execOp, ha.ev hx, Instr.entry, Sem.run_bind, h2, itob, Result.andThen_ok, h3, h1]
  simp only [bne_self_eq_false, Bool.false_eq_true, if_false]
  rw [h4]
  simp [Me.e]) hd kk
-- function values
theorem WX.makeFunc {fn : Fn} {first captured : List Operand} {fs cs : List Value} (h1 : evs L first = some fs) (h2 : evs L captured = some cs) (hd : Nat.blt d n = true) (kk : WX q g P ops Q n rest ((d, .func fn fs.toArray cs.toArray) :: L) H) :
  WX q g P ops Q n (⟨some d, .makeFunc fn first.toArray captured.toArray, ty, pos, af, none⟩ :: rest) L H :=
 WX.val (fun a ha w hw => by
  have e1 : first.toArray.map a.eval = fs.toArray := by rw [← ha.evs h1]; simp
  have e2 : captured.toArray.map a.eval = cs.toArray := by rw [← ha.evs h2]; simp
  simp only [execOp, e1, e2, Instr.makeFunc, Sem.run_bind, Sem.run_pure, Result.andThen_ok]) hd kk
theorem exec_callV {f : FuncId} {args : List Operand} {ts : Array TypeId} {a : Act} {vs fs cs : List Value} {u : Operand} {w : World} {dst : Option Nat} (hn : Enters P f) (hu : a.eval u = .func (.func f) fs.toArray cs.toArray) (hx : args.map a.eval = vs) :
  (execOp a.eval ⟨dst, .call ⟨.value u, args.toArray, ts⟩, ty, pos, af, none⟩).run P w = .ok (.enter f (fs ++ vs ++ cs).toArray) w := by
 have e : args.toArray.map a.eval = vs.toArray := by rw [← hx]; simp
 simp only [execOp, resolve, e, hu]
 simp [Deferred.ofValue, invoke, callFunc_run hn]
theorem WX.callV {f : FuncId} {args : List Operand} {ts : Array TypeId} {vs fs cs : List Value} {u : Operand} {pre Hr : HH} {post : Value → HH → Prop} (hu : ev L u = some (.func (.func f) fs.toArray cs.toArray)) (hx : evs L args = some vs) [hn : Enters P f] (hc : Ct P f (fs ++ vs ++ cs) pre post) [pk : Picks pre H Hr]
  (hd : Nat.blt d n = true) (k : ∀ v H', post v H' → WX false g P ops Q n rest ((d, v) :: L) (H' ++ Hr)) : WX false g P ops Q n (⟨some d, .call ⟨.value u, args.toArray, ts⟩, ty, pos, af, none⟩ :: rest) L H := by
 refine .mk fun a w ha hw => ?_
 have hd' : d < n := Nat.le_of_ble_eq_true hd
 refine wpList_plain rfl fun K hK => ?_
 unfold Oper.wp
 rw [exec_callV hn (ha.ev hu) (ha.evs hx)]
 refine (hc.calls g Hr.flatten w (hw.perm (by simpa using pk.p))).mono fun e w' ⟨v, H', he, hp, ho⟩ => ?_
 subst he
 exact hK _ _ (k v H' hp _ _ (ha.put hd' v) (by simpa using ho))
end
end Go.Sl

set_option maxRecDepth 100000
namespace Go.Proofs
open Go.Sl Go.Proofs.Tryz
instance Tryz.tv158 : TZV prog 158 (.pointer none) := ⟨by kernel_rfl⟩
end Go.Proofs
