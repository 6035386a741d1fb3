/-
  A small separation calculus over the walk's 'Code.wp': heaplets, frames as association lists, judgments on codes and on operations.
-/
import Derived.WalkKit
import Derived.Deep.Quiet
import Derived.StillTail
import Derived.KernelRfl
namespace Go.Sl
open Go

abbrev Hp := List (Nat × Obj)
abbrev HH := List Hp
abbrev Fm := List (Nat × Value)

/-- What a call of ours leaves alone of the surroundings. -/
structure Amb (g w : World) : Prop where
  os : w.os = g.os
  tape : w.tape = g.tape
  output : w.output = g.output
  size : g.heap.size ≤ w.heap.size

theorem Amb.refl (g : World) : Amb g g := ⟨rfl, rfl, rfl, Nat.le_refl _⟩
theorem Amb.trans {a b c : World} (h : Amb a b) (k : Amb b c) : Amb a c :=
  ⟨k.os.trans h.os, k.tape.trans h.tape, k.output.trans h.output, Nat.le_trans h.size k.size⟩

/-- The world holds these blocks, each once. -/
def on (g : World) (h : Hp) (w : World) : Prop :=
  Amb g w ∧ (h.map Prod.fst).Nodup ∧ ∀ b o, (b, o) ∈ h → w.heap[b]? = some o

section
variable {g : World} {h h' r : Hp} {w w' : World} {b : Nat} {o o' : Obj}

theorem on.perm (p : h.Perm h') (H : on g h w) : on g h' w :=
  ⟨H.1, (p.map Prod.fst).nodup_iff.1 H.2.1, fun b o hm => H.2.2 b o (p.mem_iff.2 hm)⟩
theorem on.sub (s : h'.Sublist h) (H : on g h w) : on g h' w :=
  ⟨H.1, H.2.1.sublist (s.map Prod.fst), fun b o hm => H.2.2 b o (s.subset hm)⟩
theorem on.left (H : on g (h ++ r) w) : on g h w := H.sub (List.sublist_append_left _ _)
theorem on.right (H : on g (h ++ r) w) : on g r w := H.sub (List.sublist_append_right _ _)
theorem on.lt (H : on g h w) (m : (b, o) ∈ h) : b < w.heap.size := by
  have := H.2.2 b o m
  exact (Array.getElem?_eq_some_iff.1 this).1
theorem on.heap (H : on g h w) (e : w'.heap = w.heap) (a : Amb w w') : on g h w' :=
  ⟨H.1.trans a, H.2.1, fun b o m => by rw [e]; exact H.2.2 b o m⟩
theorem on.alloc (H : on g h w) (o : Obj) : on g ((w.heap.size, o) :: h) (w.alloc o) := by
  refine ⟨⟨H.1.os, H.1.tape, H.1.output, ?_⟩, ?_, ?_⟩
  · have := H.1.size; simp only [World.size_alloc]; omega
  · simp only [List.map_cons, List.nodup_cons]
    refine ⟨fun hm => ?_, H.2.1⟩
    obtain ⟨⟨b, o'⟩, hx, hb⟩ := List.mem_map.1 hm
    have hlt := H.lt hx
    simp only at hb
    omega
  · intro b o' hm
    show (w.heap.push o)[b]? = some o'
    rcases List.mem_cons.1 hm with h1 | h1
    · cases h1; simp
    · have := H.lt h1
      rw [Array.getElem?_push, if_neg (by omega)]
      exact H.2.2 b o' h1
theorem on.set {l : Hp} (H : on g (l ++ (b, o) :: r) w) (a : Amb w w') (e : w'.heap[b]? = some o') (k : ∀ k, k ≠ b → w'.heap[k]? = w.heap[k]?) :
    on g (l ++ (b, o') :: r) w' := by
  have hn := H.2.1
  refine ⟨H.1.trans a, by simpa using hn, fun b' o'' hm => ?_⟩
  simp only [List.map_append, List.map_cons] at hn
  rw [List.nodup_append] at hn
  obtain ⟨_, hn2, hn3⟩ := hn
  rw [List.nodup_cons] at hn2
  rcases List.mem_append.1 hm with h1 | h1
  · have hne : b' ≠ b := hn3 b' (List.mem_map.2 ⟨_, h1, rfl⟩) b (List.mem_cons_self)
    rw [k b' hne]; exact H.2.2 b' o'' (List.mem_append_left _ h1)
  · rcases List.mem_cons.1 h1 with h2 | h2
    · cases h2; exact e
    · have hne : b' ≠ b := fun hb => hn2.1 (hb ▸ List.mem_map.2 ⟨_, h2, rfl⟩)
      rw [k b' hne]; exact H.2.2 b' o'' (List.mem_append_right _ (List.mem_cons_of_mem _ h2))
end

/-- The frame's slots, the latest first. -/
def lk : Fm → Nat → Option Value
  | [], _ => none
  | (j, v) :: r, i => match Nat.beq j i with
    | true => some v
    | false => lk r i

structure Fr (n : Nat) (L : Fm) (a : Act) : Prop where
  defers : a.defers = []
  size : a.tmps.size = n
  get : ∀ i v, lk L i = some v → a.tmps[i]? = some v

def ev (L : Fm) : Operand → Option Value
  | .tmp t => lk L t
  | .const v => some v
  | .global g => some (.pointer (some ⟨g, 0, none⟩))
  | .func f => some (.func (.func f) #[] #[])

def evs (L : Fm) : List Operand → Option (List Value)
  | [] => some []
  | x :: r => match ev L x, evs L r with
    | some v, some vs => some (v :: vs)
    | _, _ => none

section
variable {n : Nat} {L L' : Fm} {a : Act} {v : Value}
theorem Fr.ev {x : Operand} (h : Fr n L a) (e : Sl.ev L x = some v) : a.eval x = v := by
  cases x with
  | tmp t => have := h.get t v e; simp [Act.eval, Array.getD_eq_getD_getElem?, this]
  | const u => simpa [Sl.ev, Act.eval] using e
  | global g => simpa [Sl.ev, Act.eval] using e
  | func f => simpa [Sl.ev, Act.eval] using e
theorem Fr.evs {xs : List Operand} {vs : List Value} (h : Fr n L a) (e : Sl.evs L xs = some vs) : xs.map a.eval = vs := by
  induction xs generalizing vs with
  | nil => simpa [Sl.evs] using e
  | cons x r ih =>
    simp only [Sl.evs] at e
    split at e
    · rename_i u us hu hus
      cases e
      simp [h.ev hu, ih hus]
    · cases e
theorem Fr.put {d : Nat} (h : Fr n L a) (hd : d < n) (v : Value) : Fr n ((d, v) :: L) (a.put (some d) v) := by
  refine ⟨h.defers, by simpa [Act.put] using h.size, fun i u e => ?_⟩
  simp only [lk] at e
  simp only [Act.put]
  split at e
  · rename_i hb
    have hi := Nat.eq_of_beq_eq_true hb
    subst hi
    cases e
    simp [h.size, hd]
  · rename_i hb
    have hi := Nat.ne_of_beq_eq_false hb
    rw [Array.getElem?_setIfInBounds_ne hi]
    exact h.get i u e
theorem Fr.putNone (h : Fr n L a) (v : Value) : Fr n L (a.put none v) := h
theorem Fr.sub (h : Fr n L a) (s : ∀ i v, lk L' i = some v → lk L i = some v) : Fr n L' a := ⟨h.defers, h.size, fun i v e => h.get i v (s i v e)⟩
end

/-- All slots that L' names L names alike. -/
def Fsub (L L' : Fm) : Prop := ∀ i v, lk L' i = some v → lk L i = some v
theorem Fsub.nil {L : Fm} : Fsub L [] := fun _ _ e => by cases e
theorem Fsub.cons {L L' : Fm} {i : Nat} {v : Value} (h : lk L i = some v) (k : Fsub L L') : Fsub L ((i, v) :: L') := by
  intro j u e
  simp only [lk] at e
  split at e
  · rename_i hb
    have hi := Nat.eq_of_beq_eq_true hb
    subst hi
    cases e; exact h
  · exact k j u e
theorem Fsub.refl (L : Fm) : Fsub L L := fun _ _ e => e

/-- Permission to take the heaplets of the one list for those of the other. -/
def Hsub (H H' : HH) : Prop := ∃ r, H.flatten.Perm (H'.flatten ++ r)
theorem Hsub.refl (H : HH) : Hsub H H := ⟨[], by simp⟩
theorem Hsub.on {g : World} {H H' : HH} {w : World} (s : Hsub H H') (h : on g H.flatten w) : on g H'.flatten w :=
  let ⟨_, p⟩ := s
  (h.perm p).left
theorem Hsub.nil {H : HH} : Hsub H [] := ⟨H.flatten, by simp⟩

/-- The list H holds the heaplet x; without it: H'. -/
class Rem (x : Hp) (H : HH) (H' : outParam HH) : Prop where
  p : H.flatten.Perm (x ++ H'.flatten)
instance (priority := 1010) Rem.head (x : Hp) (H : HH) : Rem x (x :: H) H := ⟨by simp⟩
instance (priority := 1000) Rem.tail (x y : Hp) (H H' : HH) [k : Rem x H H'] : Rem x (y :: H) (y :: H') := ⟨by
  simp only [List.flatten_cons]
  refine (List.Perm.append_left y k.p).trans ?_
  rw [← List.append_assoc, ← List.append_assoc]
  exact List.Perm.append_right _ List.perm_append_comm⟩
instance (priority := 1005) Rem.nil (H : HH) : Rem [] H H := ⟨by simp⟩

instance (priority := 990) Rem.deep (x h : Hp) (y : Nat × Obj) (H H' : HH) [k : Rem x (h :: H) H'] : Rem x ((y :: h) :: H) ([y] :: H') := ⟨by
  have := k.p
  simp only [List.flatten_cons, List.cons_append, List.nil_append] at this ⊢
  exact (List.Perm.cons y this).trans List.perm_middle.symm⟩
instance (priority := 1008) Rem.uncons (y : Nat × Obj) (h : Hp) (H : HH) : Rem [y] ((y :: h) :: H) (h :: H) := ⟨by simp⟩
instance (priority := 980) Rem.split (y : Nat × Obj) (h : Hp) (H H1 H2 : HH) [k : Rem [y] H H1] [l : Rem h H1 H2] : Rem (y :: h) H H2 := ⟨by
  have h1 := k.p
  have h2 := l.p
  simp only [List.cons_append, List.nil_append] at h1 ⊢
  exact h1.trans (List.Perm.cons y h2)⟩
instance (priority := 980) Rem.app (x y : Hp) (H H1 H2 : HH) [k : Rem x H H1] [l : Rem y H1 H2] : Rem (x ++ y) H H2 := ⟨by
  rw [List.append_assoc]
  exact k.p.trans (List.Perm.append_left x l.p)⟩

class Picks (xs : HH) (H : HH) (H' : outParam HH) : Prop where
  p : H.flatten.Perm (xs.flatten ++ H'.flatten)
instance Picks.nil (H : HH) : Picks [] H H := ⟨by simp⟩
instance Picks.cons (x : Hp) (xs H H' H'' : HH) [k : Rem x H H'] [l : Picks xs H' H''] : Picks (x :: xs) H H'' := ⟨by
  simp only [List.flatten_cons, List.append_assoc]
  exact k.p.trans (List.Perm.append_left x l.p)⟩

instance Picks.app0 (ys H r : HH) [k : Picks ys H r] : Picks ([] ++ ys) H r := k
instance Picks.app1 (x : Hp) (xs ys H r : HH) [k : Picks (x :: (xs ++ ys)) H r] : Picks ((x :: xs) ++ ys) H r := k
theorem Hsub.of_picks {H H' r : HH} (k : Picks H' H r) : Hsub H H' := ⟨r.flatten, k.p⟩

/-- The list H holds the block b with the content o; K: the same list with another content of it. -/
class Foc (b : Nat) (o : outParam Obj) (H : HH) (K : outParam (Obj → HH)) : Prop where
  p : ∃ l r, H.flatten = l ++ (b, o) :: r ∧ ∀ x, (K x).flatten = l ++ (b, x) :: r
instance (priority := 1010) Foc.head (b : Nat) (o : Obj) (h : Hp) (H : HH) : Foc b o (((b, o) :: h) :: H) (fun x => ((b, x) :: h) :: H) :=
  ⟨[], h ++ H.flatten, by simp, by simp⟩
instance (priority := 1000) Foc.tail (b : Nat) (o : Obj) (h : Hp) (H : HH) (K : Obj → HH) [k : Foc b o H K] : Foc b o (h :: H) (fun x => h :: K x) :=
  ⟨let ⟨l, r, e, f⟩ := k.p; ⟨h ++ l, r, by simp [e], fun x => by simp [f x]⟩⟩
instance (priority := 990) Foc.deep (b : Nat) (o : Obj) (x : Nat × Obj) (h : Hp) (H : HH) (K : Obj → HH) [k : Foc b o (h :: H) K] : Foc b o ((x :: h) :: H) (fun y => [x] :: K y) :=
  ⟨let ⟨l, r, e, f⟩ := k.p; ⟨x :: l, r, by simpa using e, fun y => by simp [f y]⟩⟩

theorem Foc.mem {b : Nat} {o : Obj} {H : HH} {K : Obj → HH} (k : Foc b o H K) : (b, o) ∈ H.flatten := by
  obtain ⟨l, r, e, _⟩ := k.p
  rw [e]; simp
theorem Foc.heap {b : Nat} {o : Obj} {H : HH} {K : Obj → HH} {g w : World} (k : Foc b o H K) (h : on g H.flatten w) : w.heap[b]? = some o := h.2.2 b o k.mem
theorem Foc.set {b : Nat} {o o' : Obj} {H : HH} {K : Obj → HH} {g w w' : World} (k : Foc b o H K) (h : on g H.flatten w) (a : Amb w w') (e : w'.heap[b]? = some o')
    (f : ∀ k, k ≠ b → w'.heap[k]? = w.heap[k]?) : on g (K o').flatten w' := by
  obtain ⟨l, r, e1, e2⟩ := k.p
  rw [e1] at h
  rw [e2]
  exact h.set a e f

/-- The contents of a heaplet that stands somewhere in the list: it may be put in another's place. -/
class Swp (x : Hp) (H : HH) (K : outParam (Hp → HH)) : Prop where
  p : ∃ l r, H.flatten = l ++ x ++ r ∧ ∀ y, (K y).flatten = l ++ y ++ r
instance (priority := 1010) Swp.head (x : Hp) (H : HH) : Swp x (x :: H) (fun y => y :: H) := ⟨[], H.flatten, by simp, by simp⟩
instance (priority := 1000) Swp.tail (x h : Hp) (H : HH) (K : Hp → HH) [k : Swp x H K] : Swp x (h :: H) (fun y => h :: K y) :=
  ⟨let ⟨l, r, e, f⟩ := k.p; ⟨h ++ l, r, by simp [e], fun y => by simp [f y]⟩⟩

instance (priority := 990) Swp.deep (x h : Hp) (y : Nat × Obj) (H : HH) (K : Hp → HH) [k : Swp x (h :: H) K] : Swp x ((y :: h) :: H) (fun z => [y] :: K z) :=
  ⟨let ⟨l, r, e, f⟩ := k.p; ⟨y :: l, r, by simpa using e, fun z => by simp [f z]⟩⟩
instance (priority := 990) Swp.appd (x h h' : Hp) (H : HH) (K : Hp → HH) [k : Swp x (h :: h' :: H) K] : Swp x ((h ++ h') :: H) K :=
  ⟨let ⟨l, r, e, f⟩ := k.p; ⟨l, r, by simpa using e, f⟩⟩
instance (priority := 990) Foc.appd (b : Nat) (o : Obj) (h h' : Hp) (H : HH) (K : Obj → HH) [k : Foc b o (h :: h' :: H) K] : Foc b o ((h ++ h') :: H) K :=
  ⟨let ⟨l, r, e, f⟩ := k.p; ⟨l, r, by simpa using e, f⟩⟩
instance (priority := 990) Rem.appd (x h h' : Hp) (H H' : HH) [k : Rem x (h :: h' :: H) H'] : Rem x ((h ++ h') :: H) H' := ⟨by simpa using k.p⟩

end Go.Sl
