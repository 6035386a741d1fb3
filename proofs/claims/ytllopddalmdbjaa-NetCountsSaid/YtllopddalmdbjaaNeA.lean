/-
  The network in plain Lean: what it is, what each call answers and does.
-/
import Derived.Test.YtllopddalmdbjaaSlK
import Derived.Test.YtllopddalmdbjaaTy
set_option linter.unusedVariables false
set_option linter.unusedSimpArgs false
namespace Go.Proofs.Ytllopddalmdbjaa
open Go Go.Sl

structure Ad where
  kind : Int := 0
  dc : Int := 0
  rg : Int := 0
  node : Int := 0
  deriving DecidableEq
instance : Enc Ad := ⟨4, fun a => [.int .i64 a.kind, .int .i64 a.dc, .int .i64 a.rg, .int .i64 a.node], fun _ => rfl, fun _ => rfl, by decide⟩
theorem ad_eq (a b : Ad) : cellsEq [.i, .i, .i, .i] (Enc.enc a) (Enc.enc b) = some (decide (a = b)) := by
  obtain ⟨a1, a2, a3, a4⟩ := a
  obtain ⟨b1, b2, b3, b4⟩ := b
  simp [cellsEq, cellEq, Enc.enc, Bool.and_assoc]

/-- A message under way. -/
structure Mail where
  f : Ad := {}
  t : Ad := {}
  b : List UInt8 := []
  g : Bool := false
  deriving DecidableEq
instance : Enc Mail := ⟨10, fun m => [.int .i64 m.f.kind, .int .i64 m.f.dc, .int .i64 m.f.rg, .int .i64 m.f.node, .int .i64 m.t.kind, .int .i64 m.t.dc, .int .i64 m.t.rg, .int .i64 m.t.node, .string (strOf m.b), .bool m.g], fun _ => rfl, fun _ => rfl, by decide⟩
/-- With the slice and the memory that its bytes lie in. -/
structure Mg where
  f : Ad
  t : Ad
  b : List UInt8
  g : Bool
  p : Option Addr
  l : Nat
  c : Nat
  h : Hp
def Mg.v (m : Mg) : Value := .slice m.p m.l m.c
def Mg.mail (m : Mg) : Mail := ⟨m.f, m.t, m.b, m.g⟩
def Mg.ok (m : Mg) : Prop := IsSl 5 m.b m.v m.h
instance : Enc Mg := ⟨10, fun m => [.int .i64 m.f.kind, .int .i64 m.f.dc, .int .i64 m.f.rg, .int .i64 m.f.node, .int .i64 m.t.kind, .int .i64 m.t.dc, .int .i64 m.t.rg, .int .i64 m.t.node, .slice m.p m.l m.c, .bool m.g], fun _ => rfl, fun _ => rfl, by decide⟩
def hps (gs : List Mg) : Hp := (gs.map (·.h)).flatten

structure NetS where
  ms : List Mail := []
  c : Int → Int → Bool := fun _ _ => false

def upd2 (c : Int → Int → Bool) (a b : Int) (x : Bool) : Int → Int → Bool := fun i j => if i = a ∧ j = b then x else c i j
def cutCells (c : Int → Int → Bool) : List Value := [.bool (c 0 0), .bool (c 0 1), .bool (c 0 2), .bool (c 1 0), .bool (c 1 1), .bool (c 1 2), .bool (c 2 0), .bool (c 2 1), .bool (c 2 2)]
def two (a b : Int) : Prop := 0 ≤ a ∧ a < 3 ∧ 0 ≤ b ∧ b < 3 ∧ a ≠ b
instance (a b : Int) : Decidable (two a b) := by unfold two; infer_instance
theorem cut_get {a b : Int} {v : Value} {c : Int → Int → Bool} (h1 : 0 ≤ a) (h2 : a < 3) (h3 : 0 ≤ b) (h4 : b < 3) : (v :: cutCells c)[0 + 1 + a.toNat * 3 + b.toNat * 1]? = some (.bool (c a b)) := by
  obtain rfl | rfl | rfl : a = 0 ∨ a = 1 ∨ a = 2 := by omega
  all_goals (obtain rfl | rfl | rfl : b = 0 ∨ b = 1 ∨ b = 2 := by omega)
  all_goals rfl
theorem cut_set {a b : Int} {v : Value} {c : Int → Int → Bool} {x : Bool} (h1 : 0 ≤ a) (h2 : a < 3) (h3 : 0 ≤ b) (h4 : b < 3) : (v :: cutCells c).set (0 + 1 + a.toNat * 3 + b.toNat * 1) (.bool x) = v :: cutCells (upd2 c a b x) := by
  obtain rfl | rfl | rfl : a = 0 ∨ a = 1 ∨ a = 2 := by omega
  all_goals (obtain rfl | rfl | rfl : b = 0 ∨ b = 1 ∨ b = 2 := by omega)
  all_goals rfl

namespace NetS
variable (S : NetS)
def isCut (a b : Int) : Bool := if two a b then S.c a b else false
def lay (a b : Int) (x : Bool) : NetS := if two a b then { S with c := upd2 (upd2 S.c a b x) b a x } else S
def layE (a b : Int) : Int := if two a b then 0 else 1
def at? (k : Int) : Option Mail := if 0 ≤ k then S.ms[k.toNat]? else none
def sendE (n : Nat) : Int := if 1024 < n then 42 else if 256 ≤ S.ms.length then 2 else 0
def send (f t : Ad) (b : List UInt8) : NetS := if S.sendE b.length = 0 then { S with ms := S.ms ++ [⟨f, t, b, false⟩] } else S
def delE (k : Int) : Int := match S.at? k with
  | none => 3
  | some m => if S.isCut m.f.dc m.t.dc then 70 else 0
def drop (k : Int) : NetS := match S.at? k with
  | none => S
  | some _ => { S with ms := S.ms.eraseIdx k.toNat }
def dropE (k : Int) : Int := match S.at? k with
  | none => 3
  | some _ => 0
def del (k : Int) : NetS := if S.delE k = 0 then S.drop k else S
def delM (k : Int) : Mail := if S.delE k = 0 then (S.at? k).getD {} else {}
def dblE (k : Int) : Int := match S.at? k with
  | none => 3
  | some _ => if 256 ≤ S.ms.length then 2 else 0
def dbl (k : Int) : NetS := match S.at? k with
  | none => S
  | some m => if 256 ≤ S.ms.length then S else { S with ms := S.ms ++ [m] }
def garE (k : Int) : Int := match S.at? k with
  | none => 3
  | some m => if m.b = [] ∨ m.g = true then 1 else 0
/-- Which byte: the remainder, that is no less than nothing. -/
def spot (n : Nat) (at' : Int) : Nat := (if at'.tmod n < 0 then at'.tmod n + n else at'.tmod n).toNat
def flip (b : List UInt8) (i : Nat) : List UInt8 := b.set i (b[i]?.getD 0 ^^^ 1)
def gar (k at' : Int) : NetS := match S.at? k with
  | none => S
  | some m => if m.b = [] ∨ m.g = true then S else { S with ms := S.ms.set k.toNat { m with b := flip m.b (spot m.b.length at'), g := true } }
def open? (m : Mail) : Bool := !S.isCut m.f.dc m.t.dc
def first : Option Nat := S.ms.findIdx? S.open?
def firstK : Int := (S.first.getD 0 : Nat)

structure Ok : Prop where
  len : S.ms.length ≤ 256
  b : ∀ m ∈ S.ms, m.b.length ≤ 1024
  d : ∀ a, S.c a a = false
end NetS

theorem at?_some {S : NetS} {k : Int} {m : Mail} (h : S.at? k = some m) : 0 ≤ k ∧ S.ms[k.toNat]? = some m ∧ k.toNat < S.ms.length := by
  unfold NetS.at? at h
  split at h
  · exact ⟨‹_›, h, (List.getElem?_eq_some_iff.1 h).1⟩
  · cases h
theorem at?_none {S : NetS} {k : Int} (h : S.at? k = none) : ¬ (0 ≤ k ∧ k < (S.ms.length : Int)) := by
  unfold NetS.at? at h
  rintro ⟨h1, h2⟩
  rw [if_pos h1, List.getElem?_eq_none_iff] at h
  omega
theorem spot_lt {n : Nat} (hn : 0 < n) (a : Int) : NetS.spot n a < n := by
  unfold NetS.spot
  have h1 := Int.lt_tmod_of_pos a (b := (n : Int)) (by omega)
  have h2 := Int.tmod_lt_of_pos a (b := (n : Int)) (by omega)
  split <;> omega
theorem flip_len (b : List UInt8) (i : Nat) : (NetS.flip b i).length = b.length := by simp [NetS.flip]

namespace NetS.Ok
variable {S : NetS}
theorem new : ({} : NetS).Ok := ⟨by simp, by simp, fun _ => rfl⟩
theorem lay (h : S.Ok) (a b : Int) (x : Bool) : (S.lay a b x).Ok := by
  unfold NetS.lay
  split
  · rename_i ht
    refine ⟨h.len, h.b, fun i => ?_⟩
    have hne := ht.2.2.2.2
    simp only [upd2]
    split
    · rename_i hc; exact absurd (hc.2.symm.trans hc.1) hne
    · split
      · rename_i hc; exact absurd (hc.1.symm.trans hc.2) hne
      · exact h.d i
  · exact h
theorem send (h : S.Ok) (f t : Ad) (b : List UInt8) : (S.send f t b).Ok := by
  unfold NetS.send NetS.sendE
  by_cases h1 : 1024 < b.length
  · rw [if_pos h1, if_neg (by decide)]; exact h
  · rw [if_neg h1]
    by_cases h2 : 256 ≤ S.ms.length
    · rw [if_pos h2, if_neg (by decide)]; exact h
    · rw [if_neg h2, if_pos rfl]
      refine ⟨by simp; omega, fun m hm => ?_, h.d⟩
      simp only [List.mem_append, List.mem_singleton] at hm
      rcases hm with hm | rfl
      · exact h.b m hm
      · simp only []; omega
theorem drop (h : S.Ok) (k : Int) : (S.drop k).Ok := by
  unfold NetS.drop
  split
  · exact h
  · exact ⟨Nat.le_trans (List.length_eraseIdx_le _ _) h.len, fun m hm => h.b m (List.mem_of_mem_eraseIdx hm), h.d⟩
theorem del (h : S.Ok) (k : Int) : (S.del k).Ok := by
  unfold NetS.del
  split
  · exact h.drop k
  · exact h
theorem dbl (h : S.Ok) (k : Int) : (S.dbl k).Ok := by
  unfold NetS.dbl
  split
  · exact h
  · rename_i m hm
    split
    · exact h
    · refine ⟨by simp; omega, fun m' hm' => ?_, h.d⟩
      simp only [List.mem_append, List.mem_singleton] at hm'
      rcases hm' with hm' | rfl
      · exact h.b _ hm'
      · exact h.b _ (List.mem_of_getElem? (at?_some hm).2.1)
theorem gar (h : S.Ok) (k a : Int) : (S.gar k a).Ok := by
  unfold NetS.gar
  split
  · exact h
  · rename_i m hm
    split
    · exact h
    · refine ⟨by simpa using h.len, fun m' hm' => ?_, h.d⟩
      rcases List.mem_or_eq_of_mem_set hm' with hm' | rfl
      · exact h.b _ hm'
      · simp only [flip_len]; exact h.b _ (List.mem_of_getElem? (at?_some hm).2.1)
end NetS.Ok
end Go.Proofs.Ytllopddalmdbjaa
