/-
  Texts of one road, one behind the other.
-/
import Derived.Shelf.Sort.Plain
import Derived.Shelf.Slices.In.SortNone
import Derived.Shelf.Bytes.SlEqualAll
import Derived.Shelf.Bytes.Small
import Derived.Test.YtejfahjgfedliaaGreatProg
import Derived.Test.YtejfahjgfedliaaGreatQEa
import Derived.ScopeJumps
set_option linter.unusedVariables false
set_option linter.unusedSimpArgs false
namespace Go.Proofs
open Go.Shelf Go.Proofs.Tryz
def Tryz.lays189_ren : Go.Shelf.Ren := ⟨fun | 189 => 141 | 125 => 185 | 257 => 184 | 128 => 221 | 129 => 222 | 294 => 212 | 295 => 213 | 296 => 214 | 297 => 215 | 298 => 216 | 299 => 217 | 216 => 218 | 300 => 219 | 301 => 220 | 328 => 236 | 329 => 237 | 330 => 238 | 331 => 239 | 332 => 240 | 215 => 241 | 343 => 243 | n => n, fun | 28 => 79 | 3 => 3 | 46 => 214 | 0 => 0 | 51 => 215 | 53 => 225 | 4 => 4 | 183 => 243 | 182 => 242 | 131 => 124 | 5 => 5 | 9 => 9 | 218 => 266 | 222 => 218 | 228 => 273 | 229 => 100 | n => n, fun | n => n⟩
theorem Tryz.lays189 : Go.Proofs.Lays.n189 prog Tryz.lays189_ren := {
 mixed := by kernel_rfl
 f125 := func185.trans (congrArg some (by kernel_rfl))
 f128 := func221.trans (congrArg some (by kernel_rfl))
 f129 := func222.trans (congrArg some (by kernel_rfl))
 f189 := func141.trans (congrArg some (by kernel_rfl))
 f215 := func241.trans (congrArg some (by kernel_rfl))
 f216 := func218.trans (congrArg some (by kernel_rfl))
 f257 := func184.trans (congrArg some (by kernel_rfl))
 f294 := func212.trans (congrArg some (by kernel_rfl))
 f295 := func213.trans (congrArg some (by kernel_rfl))
 f296 := func214.trans (congrArg some (by kernel_rfl))
 f297 := func215.trans (congrArg some (by kernel_rfl))
 f298 := func216.trans (congrArg some (by kernel_rfl))
 f299 := func217.trans (congrArg some (by kernel_rfl))
 f300 := func219.trans (congrArg some (by kernel_rfl))
 f301 := func220.trans (congrArg some (by kernel_rfl))
 f328 := func236.trans (congrArg some (by kernel_rfl))
 f329 := func237.trans (congrArg some (by kernel_rfl))
 f330 := func238.trans (congrArg some (by kernel_rfl))
 f331 := func239.trans (congrArg some (by kernel_rfl))
 f332 := func240.trans (congrArg some (by kernel_rfl))
 f343 := func243.trans (congrArg some (by kernel_rfl))
 t0 := underlying0
 a0 := isAgg0
 z0 := sizeOf0
 v0 := zeroValue0
 t3 := underlying3
 a3 := isAgg3
 z3 := sizeOf3
 v3 := zeroValue3
 t4 := underlying4
 a4 := isAgg4
 z4 := sizeOf4
 v4 := zeroValue4
 t5 := underlying5
 a5 := isAgg5
 z5 := sizeOf5
 v5 := zeroValue5
 t9 := underlying9
 a9 := isAgg9
 z9 := sizeOf9
 v9 := zeroValue9
 t28 := underlying79
 a28 := isAgg79
 z28 := sizeOf79
 v28 := zeroValue79
 t46 := underlying214
 a46 := isAgg214
 z46 := sizeOf214
 v46 := zeroValue214
 t51 := underlying215
 a51 := isAgg215
 z51 := sizeOf215
 v51 := zeroValue215
 t53 := underlying225
 a53 := isAgg225
 z53 := sizeOf225
 v53 := zeroValue225
 t131 := underlying124
 a131 := isAgg124
 z131 := sizeOf124
 v131 := zeroValue124
 t182 := underlying242
 a182 := isAgg242
 z182 := sizeOf242
 v182 := zeroValue242
 t183 := underlying243
 a183 := isAgg243
 z183 := sizeOf243
 v183 := zeroValue243
 t218 := underlying266
 a218 := isAgg266
 z218 := sizeOf266
 v218 := zeroValue266
 t222 := underlying218
 a222 := isAgg218
 z222 := sizeOf218
 v222 := zeroValue218
 t228 := underlying273
 a228 := isAgg273
 z228 := sizeOf273
 v228 := zeroValue273
 t229 := underlying100
 a229 := isAgg100
 z229 := sizeOf100
 v229 := zeroValue100 }
open Go.Sort Go.RowKit in
theorem Tryz.slices_Sort_int (blk off cap : Nat) (zs : List Int) (w : World) (hH : Holds (Value.int .i64) w blk off zs.toArray) (hblk : blk < w.heap.size) (hsz : zs.length < 4611686018427387904) :
  Calls prog 141 #[.slice (some ⟨blk, off, none⟩) zs.length cap] w fun e w' =>
   e = .returned (.tuple #[]) ∧ ∃ n os, w' = grow (putRow (Value.int .i64) (Sort.ahead w n) blk off (zs.mergeSort fun x y => decide (x ≤ y)).toArray) os := Any.slices_Sort_int Tryz.lays189 blk off cap zs w hH hblk hsz
open Go.RowKit Go.Sort in
theorem Tryz.slices_Sort_int_none (p : Option Addr) (cap : Nat) (w : World) :
  Calls prog 141 #[.slice p 0 cap] w fun e w' => e = .returned (.tuple #[]) ∧ w' = w := Any.slices_Sort_int_none Tryz.lays189 p cap w
end Go.Proofs

namespace Go.Sl
open Go List
theorem on.upd {g w w' : World} {l r : Hp} {b : Nat} {o o' : Obj} (H : on g (l ++ (b, o) :: r) w) (a : Amb w w') (e : w'.heap[b]? = some o') (k : ∀ k, k ≠ b → k < w.heap.size → w'.heap[k]? = w.heap[k]?) :
  on g (l ++ (b, o') :: r) w' := by
 have hn := H.2.1
 refine ⟨H.1.trans a, by simpa using hn, fun b' o'' hm => ?_⟩
 simp only [map_append, map_cons] at hn
 rw [nodup_append] at hn
 obtain ⟨_, hn2, hn3⟩ := hn
 rw [nodup_cons] at hn2
 rcases mem_append.1 hm with h1 | h1
 ·have hne : b' ≠ b := hn3 b' (mem_map.2 ⟨_, h1, rfl⟩) b (mem_cons_self)
  have hm' : (b', o'') ∈ l ++ (b, o) :: r := mem_append_left _ h1
  rw [k b' hne (H.lt hm')]; exact H.2.2 b' o'' hm'
 ·rcases mem_cons.1 h1 with h2 | h2
  ·cases h2; exact e
  ·have hne : b' ≠ b := fun hb => hn2.1 (hb ▸ mem_map.2 ⟨_, h2, rfl⟩)
   have hm' : (b', o'') ∈ l ++ (b, o) :: r := mem_append_right _ (mem_cons_of_mem _ h2)
   rw [k b' hne (H.lt hm')]; exact H.2.2 b' o'' hm'
def sortL (xs : List Int) : List Int := xs.mergeSort fun x y => decide (x ≤ y)
theorem sortL_len (xs : List Int) : (sortL xs).length = xs.length := length_mergeSort _
theorem encs_int (xs : List Int) : encs xs = xs.map (Value.int .i64) := by
 induction xs with
 | nil => rfl
 | cons x r ih => show Enc.enc x ++ encs r = _; rw [ih]; rfl
theorem put_sorted {xs ys : List Int} {sp : List Value} (hl : ys.length = xs.length) : Sort.putCells (Value.int .i64) 0 ys.toArray (List.toArray (encs xs ++ sp)) = List.toArray (encs ys ++ sp) := by
 unfold Sort.putCells
 rw [encs_int, encs_int]
 apply Array.ext
 ·simp [hl]
 ·intro i h1 h2
  simp only [Array.getElem_mapIdx, getElem_toArray, size_toArray, Nat.zero_le, true_and, Nat.zero_add, Nat.sub_zero]
  by_cases h : i < ys.length
  ·rw [if_pos h, getElem_append_left (by simpa using h), getElem_map]
   congr 1
   simp [h]
  ·rw [if_neg h, getElem_append_right (by simp; omega), getElem_append_right (by simp; omega)]
   simp [hl]
end Go.Sl
namespace Go.Proofs.YtejfahjgfedliaaGreat
open Go Go.Sl Go.Proofs.Tryz List
theorem sort_ct {xs : List Int} {v : Value} {h : Hp} (hs : IsSl 3 xs v h) (hl : xs.length ≤ 1099511627776) :
  Ct prog 141 [v] [h] (fun r H' => r = .tuple #[] ∧ ∃ h', H' = [h'] ∧ IsSl 3 (sortL xs) v h') := by
 refine ⟨fun g R w hw => ?_⟩
 rcases hs with ⟨rfl, rfl, rfl⟩ | ⟨b, cap, sp, fr, rfl, rfl, h1, h2, h3⟩
 ·refine (Tryz.slices_Sort_int_none none 0 w).mono fun e w' ⟨he, hw'⟩ => ?_
  subst he; subst hw'
  exact ⟨_, [[]], rfl, ⟨rfl, [], rfl, by show IsSl _ (sortL []) _ _; rw [show sortL [] = [] from length_eq_zero_iff.1 (sortL_len [])]; exact IsSl.nil _⟩, by simpa using hw⟩
 ·have hw2 : on g ([] ++ (b, .cells (List.toArray (encs xs ++ sp)) 3 fr) :: R) w := by simpa using hw
  have hh := hw2.2.2 b (.cells (List.toArray (encs xs ++ sp)) 3 fr) (by simp)
  have hlen : (encs xs ++ sp).length = cap := by
   rw [length_append, encs_len, h2]
   show xs.length * 1 + (cap - xs.length) * 1 = cap
   omega
  have hH : Sort.Holds (Value.int .i64) w b 0 xs.toArray := by
   intro j hj
   have hj' : j < xs.length := by simpa using hj
   rw [Nat.zero_add]
   refine ⟨?_, frozen_free hh (by rw [hlen]; have h4 : Free fr (cap * 1) := h3; rwa [Nat.mul_one] at h4) (by rw [hlen]; omega)⟩
   rw [cell_bk hh, encs_int, List.getElem?_append_left (by simpa using hj'), List.getElem?_map, List.getElem?_eq_getElem hj']
   simp [hj']
  refine (Tryz.slices_Sort_int b 0 cap xs w hH (Array.getElem?_eq_some_iff.1 hh).1 (by omega)).mono fun e w' ⟨he, n, os, hw'⟩ => ?_
  subst he; subst hw'
  refine ⟨_, [[(b, .cells (List.toArray (encs (sortL xs) ++ sp)) 3 fr)]], rfl, ⟨rfl, _, rfl, .inr ⟨b, cap, sp, fr, by rw [sortL_len], rfl, by rw [sortL_len]; exact h1, by rw [sortL_len]; exact h2, h3⟩⟩, ?_⟩
  have hb := (Array.getElem?_eq_some_iff.1 hh).1
  have := on.upd (o' := .cells (List.toArray (encs (sortL xs) ++ sp)) 3 fr) (w' := Sort.grow (Sort.putRow (Value.int .i64) (Sort.ahead w n) b 0 (sortL xs).toArray) os) hw2 ⟨rfl, rfl, rfl, by simp [Sort.grow, Sort.putRow, Sort.mapBlock, Sort.ahead]⟩ ?_ ?_
  ·have h5 : on g ([] ++ (b, .cells (List.toArray (encs (sortL xs) ++ sp)) 3 fr) :: R) (Sort.grow (Sort.putRow (Value.int .i64) (Sort.ahead w n) b 0 (xs.mergeSort fun x y => decide (x ≤ y)).toArray) os) := this
   simpa using h5
  ·simp only [Sort.grow, Sort.putRow, Sort.mapBlock, Sort.ahead]
   rw [Array.getElem?_append_left (by simpa using hb), Array.getElem?_modify, if_pos rfl, hh]
   simp only [Option.map_some, Sort.onCells]
   rw [put_sorted (sortL_len xs)]
  ·intro k hk hlt
   simp only [Sort.grow, Sort.putRow, Sort.mapBlock, Sort.ahead]
   rw [Array.getElem?_append_left (by simpa using hlt), Array.getElem?_modify, if_neg (fun e => hk e.symm)]
end Go.Proofs.YtejfahjgfedliaaGreat

namespace Go.Sl
open Go
section
variable {g : World} {P : Program} {ops : Array Oper} {Q : Exit → Act → World → Prop} {n : Nat} {L : Fm} {H : HH} {C : World → Prop} {tail : List Oper} {z : List (Bool × Oper)} {o : Oper}
variable {d : Nat} {ty : TypeId} {pos : String} {af : Array Edge} {v : Value}
def Cf (g : World) {ι : Type} (Hf : ι → HH) : World → Prop := fun w => ∃ i, on g (Hf i).flatten w
structure WN (g : World) (P : Program) (ops : Array Oper) (Q : Exit → Act → World → Prop) (n : Nat) (C : World → Prop) (tail : List Oper) (z : List (Bool × Oper)) (L : Fm) (H : HH) : Prop where
 run : ∀ a w, Fr n L a → on g H.flatten w → lexM P ops C Q tail z a w
def QunN (g : World) (P : Program) (ops : Array Oper) (Q : Exit → Act → World → Prop) (C : World → Prop) (tail : List Oper) (z : List (Bool × Oper)) (H : HH) : Exit → Act → World → Prop :=
 fun _ a _ => ∀ w, on g H.flatten w → lexM P ops C Q tail z a w
def QanN (P : Program) (ops : Array Oper) (Q : Exit → Act → World → Prop) (C : World → Prop) (tail : List Oper) (z : List (Bool × Oper)) : Exit → Act → World → Prop
 | .normal, a, w => C w ∧ lexM P ops C Q tail z a w
 | _, _, _ => False
theorem W.mixC {id : Nat} {l : List Oper} (ms : List Bool) (C : World → Prop) (hC : ∀ w, on g H.flatten w → C w) (hm : P.follows .mixedOrders = true) (hB : mixB .any l.toArray ms = true) (h : WN g P l.toArray Q n C (l.drop ms.length) (ms.zip l) L H) :
  W g P (.region id l.toArray true) Q n L H := .mk fun a w ha hw =>
 have hd : on g H.flatten w.drew := hw.heap rfl ⟨rfl, rfl, rfl, Nat.le_refl _⟩
 wp_region_mix (C := C) ms hm hB (hC _ hd) (h.run a _ ha hd)
theorem WN.nil (h : WX false g P ops Q n tail L H) : WN g P ops Q n C tail [] L H := ⟨fun a w ha hw => h a w ha hw⟩
theorem WN.un0 [nv : NV P o] (hc : ∀ w, C w → Amb g w) (h : WX true g P ops (QunN g P ops Q C tail z H) n [o] L []) : WN g P ops Q n C tail ((true, o) :: z) L H := ⟨fun a w ha hw => by
 have hon : ∀ w', Amb g w' → on g (List.flatten []) w' := fun w' h => ⟨h, by simp, by simp⟩
 have h1 : wpQuiet P ops (on g (List.flatten [])) (fun a' => ∀ w', on g (List.flatten []) w' → QunN g P ops Q C tail z H .normal a' w') [o] a := h a w ha (hon w hw.1)
 simp only [wpQuiet] at h1
 by_cases hwa : Region.wanted o (yielded ops a.tmps) = true
 ·rw [if_pos hwa] at h1
  obtain ⟨v, hv, hK⟩ := h1
  refine ⟨v, .inl ⟨hwa, fun w' hw' => ?_⟩, hK w (hon w hw.1) w hw⟩
  have h2 := hv w' (hon w' (hc w' hw'))
  unfold Oper.quietAt at h2
  cases hr : (execOp a.eval o).run P w' with
  | halt x w1 => rw [hr] at h2; exact h2.elim
  | ok nx w1 =>
   obtain ⟨u, rfl⟩ := nv.h a w' nx w1 hr
   rw [hr] at h2
   obtain ⟨rfl, rfl⟩ := h2
   rfl
 ·rw [if_neg hwa] at h1
  exact ⟨undef, .inr ⟨by simpa using hwa, rfl⟩, h1 w (hon w hw.1) w hw⟩⟩
theorem WN.back0 (h : WN g P ops Q n C tail z L H) {H' : HH} : D g (QunN g P ops Q C tail z H) .normal n L H' := .mk fun a w ha _ w' hw' => h.run a w' ha hw'
theorem WN.load {x : Operand} {t b i : Nat} (hx : ev L x = some (.pointer (some ⟨b, i, none⟩))) [ht : TL P t 1 false] (hc : ∀ w, C w → w.cell? ⟨b, i, none⟩ = some v) (hd : Nat.blt d n = true) (kk : WN g P ops Q n C tail z ((d, v) :: L) H) :
  WN g P ops Q n C tail ((true, ⟨some d, .load t x, ty, pos, af, none⟩) :: z) L H := ⟨fun a w ha hw => by
 refine ⟨v, .inl ⟨rfl, fun w' hw' => ?_⟩, kk.run _ w (ha.put (Nat.le_of_ble_eq_true hd) v) hw⟩
 simp [execOp, ha.ev hx, Instr.loadAt, Instr.sureAddr, loadVar, ht.isAgg, hc w' hw']⟩
theorem WN.an [nd : ND P o] (h : WX false g P ops (QanN P ops Q C tail z) n [o] L H) : WN g P ops Q n C tail ((false, o) :: z) L H := ⟨fun a w ha hw => by
 have h1 : wpList P ops (QanN P ops Q C tail z) [o] a w := h a w ha hw
 have hout : ¬ LetsOut (QanN P ops Q C tail z) := fun ⟨_, _, h⟩ => h
 simp only [wpList] at h1
 show AnR P ops o _ a w
 by_cases hwa : Region.wanted o (yielded ops a.tmps) = true
 ·rw [if_pos hwa] at h1
  rcases h1 with h1 | ⟨_, h1⟩
  ·refine .inr ⟨hwa, ?_⟩
   unfold Oper.wp at h1
   cases hr : (execOp a.eval o).run P w with
   | halt x w1 =>
    rw [hr] at h1
    cases x <;> exact h1.elim
   | ok nx w1 =>
    rw [hr] at h1
    rcases nd.h a w nx w1 hr with ⟨v, rfl⟩ | rfl | ⟨f, args, rfl⟩
    ·exact .inl ⟨v, w1, rfl, h1⟩
    ·exact .inr (.inl ⟨w1, rfl, h1⟩)
    ·refine .inr (.inr ⟨f, args, w1, rfl, ?_⟩)
     refine Calls.mono h1 fun e w'' he => ?_
     cases e with
     | returned v => exact ⟨v, rfl, he⟩
     | panicked ch => exact he.elim
     | outgrown => exact (hout he).elim
  ·exact (hout h1).elim
 ·rw [if_neg hwa] at h1
  exact .inl ⟨by simpa using hwa, h1⟩⟩
theorem WN.back {H : HH} (hC : ∀ w, on g H.flatten w → C w) (h : WN g P ops Q n C tail z L H) : D g (QanN P ops Q C tail z) .normal n L H := .mk fun a w ha hw => ⟨hC w hw, h.run a w ha hw⟩
instance NV.lookup {gd : Option (Nat × Bool)} {d : Option Nat} {t : Nat} {x y : Operand} {b : Bool} : NV P ⟨d, .lookup t x y b, ty, pos, af, gd⟩ := ⟨fun _ _ _ _ h => nd_v h⟩
theorem Cf.amb {ι : Type} {Hf : ι → HH} {w : World} (h : Cf g Hf w) : Amb g w := let ⟨_, h⟩ := h; h.1
theorem Cf.of {ι : Type} {Hf : ι → HH} {w : World} (i : ι) {r : HH} [k : Picks (Hf i) H r] (h : on g H.flatten w) : Cf g Hf w := ⟨i, (Hsub.of_picks k).on h⟩
end
end Go.Sl

namespace Go.Sl
open Go List
section
variable {P : Program} {ops : Array Oper} {md : Region.Mode} {C : World → Prop} {un : Nat → Bool} {L : Array Bool → Act → World → Prop}
structure MixS (md : Region.Mode) (ops : Array Oper) (m : Nat) : Prop where
 sel : ∀ (j : Nat) (o : Oper) cs b, ops[j]? = some o → o.op ≠ .select cs b
 sink : ∀ i t, i < m → m ≤ t → t < ops.size → ∃ f, waits md ops f t i = true
theorem MixS.ok {m : Nat} (h : MixS md ops m) : MixOk md ops (fun _ => true) m := ⟨h.sel, (fun i j _ _ hi => by cases hi), h.sink⟩
theorem AM.un_firstS {m k : Nat} {ok : Oper} {u : Value} (ms : MixS md ops m) (hk : ops[k]? = some ok) (hun : un k = true) (hkm : k < m) (hdone : ∀ listed a w, L listed a w → ∀ j ∈ Region.ready md ops listed, m ≤ j) :
  ∀ (f : Nat) (listed : Array Bool) (a : Act) (w : World), Closed md ops listed →
   (∀ j oj, ops[j]? = some oj → j ≠ k → listed.getD j true = false → (∀ e ∈ oj.after, Region.binds md e = true → e.on ≠ k) → ok.apart ops oj = true) →
   k ∈ Region.ready md ops listed → UnY P ops C ok u a → AM P md ops C un L f (listed.setIfInBounds k true) (a.put ok.dst u) w → AM P md ops C un L (f + 1) listed a w := by
 intro f
 induction f with
 | zero =>
  intro listed a w hc _ hr hy H
  have hkun := (mem_ready.1 hr).1
  refine ⟨H.1, fun h => (by rw [h] at hr; cases hr), fun j hj => ?_⟩
  by_cases hjk : j = k
  ·subst hjk
   refine ⟨ok, hk, ?_⟩
   rw [hun]
   exact ⟨u, hy, H⟩
  ·have h1 := hdone _ _ _ H.2 j (ready_mono hj hjk)
   have h2 := tail_not ms.ok hc hkm hkun hj
   omega
 | succ f ih =>
  intro listed a w hc hfree hr hy H
  have hkun := (mem_ready.1 hr).1
  refine ⟨H.1, fun h => (by rw [h] at hr; cases hr), fun j hj => ?_⟩
  by_cases hjk : j = k
  ·subst hjk
   refine ⟨ok, hk, ?_⟩
   rw [hun]
   exact ⟨u, hy, H⟩
  ·obtain ⟨o, ho, h2⟩ := H.2.2 j (ready_mono hj hjk)
   obtain ⟨hjun, oj, hoj, hall⟩ := mem_ready.1 hj
   have : o = oj := Option.some.inj (ho.symm.trans hoj)
   subst this
   have hno : ∀ e ∈ o.after, Region.binds md e = true → e.on ≠ k := fun e he hb heq => by
    have h1 := hall e he hb
    rw [heq, getD_both hkun] at h1
    cases h1
   have hap := hfree j o hoj hjk hjun hno
   obtain ⟨q1, q2, q3⟩ := Oper.apart_spec hap
   have selj : ∀ cs b, o.op ≠ .select cs b := fun cs b => ms.sel j o cs b hoj
   have selk : ∀ cs b, ok.op ≠ .select cs b := fun cs b => ms.sel k ok cs b hk
   have hfree' : ∀ i oi, ops[i]? = some oi → i ≠ k → (listed.setIfInBounds j true).getD i true = false → (∀ e ∈ oi.after, Region.binds md e = true → e.on ≠ k) → ok.apart ops oi = true := fun i oi hi hik hl hn => by
    refine hfree i oi hi hik ?_ hn
    by_cases hji : j = i
    ·subst hji; exact hjun
    ·rwa [getD_set_ne true hji] at hl
   have hc' := hc.set hj
   have hr' := ready_mono hr (Ne.symm hjk)
   have hky : ∀ v, UnY P ops C ok u (a.put o.dst v) := fun v => hy.same (execOp_put ok selk a o.dst v fun d hd => q3 d hd) (wanted_put ok a o.dst v fun d hd => q3 d hd)
   refine ⟨o, hoj, ?_⟩
   cases huj : un j with
   | true =>
    rw [huj] at h2
    obtain ⟨v, hv, h3⟩ := h2
    refine ⟨v, hv.same (execOp_put o selj a ok.dst u fun d hd => q1 d hd).symm (wanted_put o a ok.dst u fun d hd => q1 d hd).symm, ih _ _ _ hc' hfree' hr' (hky v) ?_⟩
    rw [Array.setIfInBounds_comm _ _ hjk, ← Act.put_comm a u v q2]
    exact h3
   | false =>
    rw [huj] at h2
    refine (h2.same (execOp_put o selj a ok.dst u fun d hd => q1 d hd).symm (wanted_put o a ok.dst u fun d hd => q1 d hd).symm).mono fun v w' h3 => ?_
    refine ih _ _ _ hc' hfree' hr' (hky v) ?_
    rw [Array.setIfInBounds_comm _ _ hjk, ← Act.put_comm a u v q2]
    exact h3
theorem AM.an_firstS {m k : Nat} {ok : Oper} (ms : MixS md ops m) (hk : ops[k]? = some ok) (hun : un k = false) (hkm : k < m) (hdone : ∀ listed a w, L listed a w → ∀ j ∈ Region.ready md ops listed, m ≤ j) :
  ∀ (f : Nat) (listed : Array Bool) (a : Act) (w : World), Closed md ops listed → C w →
   (∀ j oj, ops[j]? = some oj → j ≠ k → listed.getD j true = false → (∀ e ∈ oj.after, Region.binds md e = true → e.on ≠ k) → ok.apart ops oj = true) →
   (∀ i, i ≠ k → i < m → un i = false → listed.getD i true = false → ∃ f, waits md ops f i k = true) →
   k ∈ Region.ready md ops listed → AnR P ops ok (fun v w' => AM P md ops C un L f (listed.setIfInBounds k true) (a.put ok.dst v) w') a w → AM P md ops C un L (f + 1) listed a w := by
 intro f
 induction f with
 | zero =>
  intro listed a w hc hcw _ _ hr H
  have hkun := (mem_ready.1 hr).1
  refine ⟨hcw, fun h => (by rw [h] at hr; cases hr), fun j hj => ?_⟩
  by_cases hjk : j = k
  ·subst hjk
   refine ⟨ok, hk, ?_⟩
   rw [hun]
   exact H
  ·obtain ⟨v0, w0, H0⟩ := H.ex
   have h1 := hdone _ _ _ H0.2 j (ready_mono hj hjk)
   have h2 := tail_not ms.ok hc hkm hkun hj
   omega
 | succ f ih =>
  intro listed a w hc hcw hfree hpre hr H
  have hkun := (mem_ready.1 hr).1
  refine ⟨hcw, fun h => (by rw [h] at hr; cases hr), fun j hj => ?_⟩
  by_cases hjk : j = k
  ·subst hjk
   refine ⟨ok, hk, ?_⟩
   rw [hun]
   exact H
  ·obtain ⟨hjun, o, hoj, hall⟩ := mem_ready.1 hj
   have hjm := tail_not ms.ok hc hkm hkun hj
   have huj : un j = true := by
    cases huj : un j with
    | true => rfl
    | false =>
     obtain ⟨f0, hf0⟩ := hpre j hjk hjm huj hjun
     have := ready_waits hc hj hf0
     rw [getD_both hkun] at this; cases this
   have hno : ∀ e ∈ o.after, Region.binds md e = true → e.on ≠ k := fun e he hb heq => by
    have h1 := hall e he hb
    rw [heq, getD_both hkun] at h1
    cases h1
   have hap := hfree j o hoj hjk hjun hno
   obtain ⟨q1, q2, q3⟩ := Oper.apart_spec hap
   have selj : ∀ cs b, o.op ≠ .select cs b := fun cs b => ms.sel j o cs b hoj
   have selk : ∀ cs b, ok.op ≠ .select cs b := fun cs b => ms.sel k ok cs b hk
   have hfree' : ∀ i oi, ops[i]? = some oi → i ≠ k → (listed.setIfInBounds j true).getD i true = false → (∀ e ∈ oi.after, Region.binds md e = true → e.on ≠ k) → ok.apart ops oi = true := fun i oi hi hik hl hn => by
    refine hfree i oi hi hik ?_ hn
    by_cases hji : j = i
    ·subst hji; exact hjun
    ·rwa [getD_set_ne true hji] at hl
   have hc' := hc.set hj
   have hr' := ready_mono hr (Ne.symm hjk)
   have hpre' : ∀ i, i ≠ k → i < m → un i = false → (listed.setIfInBounds j true).getD i true = false → ∃ f, waits md ops f i k = true := fun i h1 h2 h3 h4 => by
    by_cases hji : j = i
    ·subst hji
     rw [huj] at h3; cases h3
    ·rw [getD_set_ne true hji] at h4; exact hpre i h1 h2 h3 h4
   have key : ∀ v w', AM P md ops C un L (f + 1) (listed.setIfInBounds k true) (a.put ok.dst v) w' → ∃ u, UnY P ops C o u a ∧ AM P md ops C un L f ((listed.setIfInBounds j true).setIfInBounds k true) ((a.put o.dst u).put ok.dst v) w' := fun v w' h => by
    obtain ⟨o', ho', h2⟩ := h.2.2 j (ready_mono hj hjk)
    have : o' = o := Option.some.inj (ho'.symm.trans hoj)
    subst this
    rw [huj] at h2
    obtain ⟨u, hu, h3⟩ := h2
    refine ⟨u, hu.same (execOp_put o' selj a ok.dst v fun d hd => q1 d hd).symm (wanted_put o' a ok.dst v fun d hd => q1 d hd).symm, ?_⟩
    rw [Array.setIfInBounds_comm _ _ hjk, ← Act.put_comm a v u q2]
    exact h3
   obtain ⟨v0, w0, H0⟩ := H.ex
   obtain ⟨u, hu, _⟩ := key v0 w0 H0
   refine ⟨o, hoj, ?_⟩
   rw [huj]
   refine ⟨u, hu, ih _ _ _ hc' hcw hfree' hpre' hr' ?_⟩
   refine (H.mono fun v w' h => ?_).same (execOp_put ok selk a o.dst u fun d hd => q3 d hd) (wanted_put ok a o.dst u fun d hd => q3 d hd)
   obtain ⟨u', hu', h4⟩ := key v w' h
   have : u' = u := UnY.uniq hcw hu' hu
   subst this
   exact h4
theorem AM.an_two {m k z : Nat} {ok oz : Oper} (ms : MixS md ops m) (hk : ops[k]? = some ok) (hz : ops[z]? = some oz) (hun : un k = false) (hunz : un z = false) (hkm : k < m) (hkz : k ≠ z) (hdone : ∀ listed a w, L listed a w → ∀ j ∈ Region.ready md ops listed, m ≤ j) (hzm : z < m) :
  ∀ (f : Nat) (listed : Array Bool) (a : Act) (w : World), Closed md ops listed → C w →
   (∀ j oj, ops[j]? = some oj → j ≠ k → listed.getD j true = false → (∀ e ∈ oj.after, Region.binds md e = true → e.on ≠ k) → ok.apart ops oj = true) →
   (∀ j oj, ops[j]? = some oj → j ≠ z → listed.getD j true = false → (∀ e ∈ oj.after, Region.binds md e = true → e.on ≠ z) → oz.apart ops oj = true) →
   (∀ i, i ≠ k → i ≠ z → i < m → un i = false → listed.getD i true = false → ∃ f, waits md ops f i k = true) →
   k ∈ Region.ready md ops listed → z ∈ Region.ready md ops listed → AnR P ops ok (fun v w' => AM P md ops C un L f (listed.setIfInBounds k true) (a.put ok.dst v) w') a w →
   AnR P ops oz (fun v w' => AM P md ops C un L f (listed.setIfInBounds z true) (a.put oz.dst v) w') a w → AM P md ops C un L (f + 1) listed a w := by
 intro f
 induction f with
 | zero =>
  intro listed a w hc hcw _ _ _ hr hrz H Hz
  obtain ⟨v0, w0, H0⟩ := H.ex
  have h1 := hdone _ _ _ H0.2 z (ready_mono hrz (fun e => hkz e.symm))
  omega
 | succ f ih =>
  intro listed a w hc hcw hfree hfreez hpre hr hrz H Hz
  have hkun := (mem_ready.1 hr).1
  have hzun := (mem_ready.1 hrz).1
  refine ⟨hcw, fun h => (by rw [h] at hr; cases hr), fun j hj => ?_⟩
  by_cases hjk : j = k
  ·subst hjk
   refine ⟨ok, hk, ?_⟩
   rw [hun]
   exact H
  by_cases hjz : j = z
  ·subst hjz
   refine ⟨oz, hz, ?_⟩
   rw [hunz]
   exact Hz
  obtain ⟨hjun, o, hoj, hall⟩ := mem_ready.1 hj
  have hjm := tail_not ms.ok hc hkm hkun hj
  have huj : un j = true := by
   cases huj : un j with
   | true => rfl
   | false =>
    obtain ⟨f0, hf0⟩ := hpre j hjk hjz hjm huj hjun
    have := ready_waits hc hj hf0
    rw [getD_both hkun] at this; cases this
  have hno : ∀ e ∈ o.after, Region.binds md e = true → e.on ≠ k := fun e he hb heq => by
   have h1 := hall e he hb
   rw [heq, getD_both hkun] at h1
   cases h1
  have hnoz : ∀ e ∈ o.after, Region.binds md e = true → e.on ≠ z := fun e he hb heq => by
   have h1 := hall e he hb
   rw [heq, getD_both hzun] at h1
   cases h1
  obtain ⟨q1, q2, q3⟩ := Oper.apart_spec (hfree j o hoj hjk hjun hno)
  obtain ⟨p1, p2, p3⟩ := Oper.apart_spec (hfreez j o hoj hjz hjun hnoz)
  have selj : ∀ cs b, o.op ≠ .select cs b := fun cs b => ms.sel j o cs b hoj
  have selk : ∀ cs b, ok.op ≠ .select cs b := fun cs b => ms.sel k ok cs b hk
  have selz : ∀ cs b, oz.op ≠ .select cs b := fun cs b => ms.sel z oz cs b hz
  have hfree' : ∀ i oi, ops[i]? = some oi → i ≠ k → (listed.setIfInBounds j true).getD i true = false → (∀ e ∈ oi.after, Region.binds md e = true → e.on ≠ k) → ok.apart ops oi = true := fun i oi hi hik hl hn => by
   refine hfree i oi hi hik ?_ hn
   by_cases hji : j = i
   ·subst hji; exact hjun
   ·rwa [getD_set_ne true hji] at hl
  have hfreez' : ∀ i oi, ops[i]? = some oi → i ≠ z → (listed.setIfInBounds j true).getD i true = false → (∀ e ∈ oi.after, Region.binds md e = true → e.on ≠ z) → oz.apart ops oi = true := fun i oi hi hik hl hn => by
   refine hfreez i oi hi hik ?_ hn
   by_cases hji : j = i
   ·subst hji; exact hjun
   ·rwa [getD_set_ne true hji] at hl
  have hc' := hc.set hj
  have hr' := ready_mono hr (Ne.symm hjk)
  have hrz' := ready_mono hrz (Ne.symm hjz)
  have hpre' : ∀ i, i ≠ k → i ≠ z → i < m → un i = false → (listed.setIfInBounds j true).getD i true = false → ∃ f, waits md ops f i k = true := fun i h1 h2 h3 h4 h5 => by
   by_cases hji : j = i
   ·subst hji
    rw [huj] at h4; cases h4
   ·rw [getD_set_ne true hji] at h5; exact hpre i h1 h2 h3 h4 h5
  have key : ∀ v w', AM P md ops C un L (f + 1) (listed.setIfInBounds k true) (a.put ok.dst v) w' → ∃ u, UnY P ops C o u a ∧ AM P md ops C un L f ((listed.setIfInBounds j true).setIfInBounds k true) ((a.put o.dst u).put ok.dst v) w' := fun v w' h => by
   obtain ⟨o', ho', h2⟩ := h.2.2 j (ready_mono hj hjk)
   have : o' = o := Option.some.inj (ho'.symm.trans hoj)
   subst this
   rw [huj] at h2
   obtain ⟨u, hu, h3⟩ := h2
   refine ⟨u, hu.same (execOp_put o' selj a ok.dst v fun d hd => q1 d hd).symm (wanted_put o' a ok.dst v fun d hd => q1 d hd).symm, ?_⟩
   rw [Array.setIfInBounds_comm _ _ hjk, ← Act.put_comm a v u q2]
   exact h3
  have keyz : ∀ v w', AM P md ops C un L (f + 1) (listed.setIfInBounds z true) (a.put oz.dst v) w' → ∃ u, UnY P ops C o u a ∧ AM P md ops C un L f ((listed.setIfInBounds j true).setIfInBounds z true) ((a.put o.dst u).put oz.dst v) w' := fun v w' h => by
   obtain ⟨o', ho', h2⟩ := h.2.2 j (ready_mono hj hjz)
   have : o' = o := Option.some.inj (ho'.symm.trans hoj)
   subst this
   rw [huj] at h2
   obtain ⟨u, hu, h3⟩ := h2
   refine ⟨u, hu.same (execOp_put o' selj a oz.dst v fun d hd => p1 d hd).symm (wanted_put o' a oz.dst v fun d hd => p1 d hd).symm, ?_⟩
   rw [Array.setIfInBounds_comm _ _ hjz, ← Act.put_comm a v u p2]
   exact h3
  obtain ⟨v0, w0, H0⟩ := H.ex
  obtain ⟨u, hu, _⟩ := key v0 w0 H0
  refine ⟨o, hoj, ?_⟩
  rw [huj]
  refine ⟨u, hu, ih _ _ _ hc' hcw hfree' hfreez' hpre' hr' hrz' ?_ ?_⟩
  ·refine (H.mono fun v w' h => ?_).same (execOp_put ok selk a o.dst u fun d hd => q3 d hd) (wanted_put ok a o.dst u fun d hd => q3 d hd)
   obtain ⟨u', hu', h4⟩ := key v w' h
   have : u' = u := UnY.uniq hcw hu' hu
   subst this
   exact h4
  ·refine (Hz.mono fun v w' h => ?_).same (execOp_put oz selz a o.dst u fun d hd => p3 d hd) (wanted_put oz a o.dst u fun d hd => p3 d hd)
   obtain ⟨u', hu', h4⟩ := keyz v w' h
   have : u' = u := UnY.uniq hcw hu' hu
   subst this
   exact h4
inductive Al (ops : Array Oper) (un : Nat → Bool) : List Nat → List (Bool × Oper) → Prop
 | nil : Al ops un [] []
 | cons {k : Nat} {x : Bool × Oper} {ks : List Nat} {z : List (Bool × Oper)} (h : ops[k]? = some x.2) (hu : un k = x.1) (t : Al ops un ks z) : Al ops un (k :: ks) (x :: z)
theorem Al.app {ks ks' : List Nat} {z z' : List (Bool × Oper)} (h : Al ops un ks z) (h' : Al ops un ks' z') : Al ops un (ks ++ ks') (z ++ z') := by
 induction h with
 | nil => exact h'
 | cons a b _ ih => exact .cons a b ih
theorem Al.of : ∀ (z : List (Bool × Oper)) (k : Nat), (∀ j x, z[j]? = some x → ops[k + j]? = some x.2 ∧ un (k + j) = x.1) → Al ops un (List.range' k z.length) z
 | [], k, _ => .nil
 | x :: z, k, h => by
  rw [length_cons, List.range'_succ]
  obtain ⟨h1, h2⟩ := h 0 x rfl
  refine .cons h1 h2 (Al.of z (k + 1) fun j y hy => ?_)
  have := h (j + 1) y (by simpa using hy)
  rwa [show k + (j + 1) = k + 1 + j by omega] at this
def othersWait (nn : Nat) (md : Region.Mode) (ops : Array Oper) (un : Nat → Bool) (m : Nat) (listed : Array Bool) (k z : Nat) : Bool :=
 (List.range m).all fun j => j == k || j == z || un j || listed.getD j true || waits md ops nn j k
theorem othersWait_spec {nn m : Nat} {listed : Array Bool} {k z : Nat} (h : othersWait nn md ops un m listed k z = true) : ∀ i, i ≠ k → i ≠ z → i < m → un i = false → listed.getD i true = false → ∃ f, waits md ops f i k = true := fun i h1 h2 h3 h4 h5 => by
 have := all_eq_true.1 h i (mem_range.2 h3)
 simp only [Bool.or_eq_true, beq_iff_eq, h1, h2, h4, h5, false_or, Bool.false_eq_true] at this
 exact ⟨nn, this⟩
def hdI (nn : Nat) (md : Region.Mode) (ops : Array Oper) (un : Nat → Bool) (m gg : Nat) : List Nat → Array Bool → Bool
 | [], listed => Region.seqB md ops gg m listed
 | k :: r, listed => (Region.ready md ops listed).contains k && Region.free md ops listed k && decide (k < m) && (un k || othersWait nn md ops un m listed k k) && hdI nn md ops un m gg r (listed.setIfInBounds k true)
theorem AM_lexI {nn m gg : Nat} {Q : Exit → Act → World → Prop} {tail : List Oper} (ms : MixS md ops m) {ks : List Nat} {z : List (Bool × Oper)} (al : Al ops un ks z) : ∀ (listed : Array Bool) (a : Act) (w : World),
  Closed md ops listed → hdI nn md ops un m gg ks listed = true → C w → lexM P ops C Q tail z a w →
  AM P md ops C un (fun listed' a' w' => Region.seqB md ops gg m listed' = true ∧ wpList P ops Q tail a' w') ks.length listed a w := by
 induction al with
 | nil => exact fun listed a w _ hB hc h => ⟨hc, hB, h⟩
 | @cons k x ks z h0 h1 t ih =>
  intro listed a w hcl hB hc h
  obtain ⟨b, o⟩ := x
  simp only [hdI, Bool.and_eq_true, decide_eq_true_eq] at hB
  obtain ⟨⟨⟨⟨hr, hf⟩, hkm⟩, hw⟩, hB'⟩ := hB
  have hr' : k ∈ Region.ready md ops listed := by simpa using hr
  have hdone : ∀ (listed' : Array Bool) (a' : Act) (w' : World), (Region.seqB md ops gg m listed' = true ∧ wpList P ops Q tail a' w') → ∀ j ∈ Region.ready md ops listed', m ≤ j := fun listed' a' w' hL => seqB_ready hL.1
  cases b with
  | true =>
   obtain ⟨u, hu, h2⟩ := h
   exact AM.un_firstS ms h0 h1 hkm hdone _ _ _ _ hcl (Region.free_spec h0 hf) hr' hu (ih _ _ _ (hcl.set hr') hB' hc h2)
  | false =>
   have h1' : un k = false := h1
   rw [h1', Bool.false_or] at hw
   have hw' := othersWait_spec hw
   refine AM.an_firstS ms h0 h1 hkm hdone _ _ _ _ hcl hc (Region.free_spec h0 hf) (fun i g1 g2 g3 g4 => hw' i g1 g1 g2 g3 g4) hr' ?_
   exact AnR.mono h fun v w' h2 => ih _ _ _ (hcl.set hr') hB' h2.1 h2.2
def lexA (P : Program) (ops : Array Oper) (C : World → Prop) (Q : Exit → Act → World → Prop) (tail : List Oper) (oz : Oper) (z2 : List (Bool × Oper)) : List (Bool × Oper) → Act → World → Prop
 | [], a, w => AnR P ops oz (fun v w' => C w' ∧ lexM P ops C Q tail z2 (a.put oz.dst v) w') a w
 | (true, o) :: r, a, w => ∃ u, UnY P ops C o u a ∧ lexA P ops C Q tail oz z2 r (a.put o.dst u) w
 | (false, o) :: r, a, w => AnR P ops oz (fun v w' => C w' ∧ lexM P ops C Q tail ((false, o) :: (r ++ z2)) (a.put oz.dst v) w') a w ∧ AnR P ops o (fun v w' => C w' ∧ lexA P ops C Q tail oz z2 r (a.put o.dst v) w') a w
def chkA (nn : Nat) (md : Region.Mode) (ops : Array Oper) (un : Nat → Bool) (m gg zi : Nat) (ks2 : List Nat) : List Nat → Array Bool → Bool
 | [], listed => hdI nn md ops un m gg (zi :: ks2) listed
 | k :: r, listed => (Region.ready md ops listed).contains k && Region.free md ops listed k && decide (k < m) && chkA nn md ops un m gg zi ks2 r (listed.setIfInBounds k true) &&
   (un k || (!(k == zi) && (Region.ready md ops listed).contains zi && Region.free md ops listed zi && othersWait nn md ops un m listed k zi && hdI nn md ops un m gg (k :: (r ++ ks2)) (listed.setIfInBounds zi true)))
theorem AM_A {nn m gg zi : Nat} {oz : Oper} {Q : Exit → Act → World → Prop} {tail : List Oper} (ms : MixS md ops m) (hz : ops[zi]? = some oz) (hzu : un zi = false) (hzm : zi < m) {ks2 : List Nat} {z2 : List (Bool × Oper)} (al2 : Al ops un ks2 z2) {ks : List Nat} {z : List (Bool × Oper)} (al : Al ops un ks z) : ∀ (listed : Array Bool) (a : Act) (w : World),
  Closed md ops listed → chkA nn md ops un m gg zi ks2 ks listed = true → C w → lexA P ops C Q tail oz z2 z a w →
  AM P md ops C un (fun listed' a' w' => Region.seqB md ops gg m listed' = true ∧ wpList P ops Q tail a' w') (ks.length + (ks2.length + 1)) listed a w := by
 induction al with
 | nil =>
  intro listed a w hcl hB hc h
  rw [show ([] : List Nat).length + (ks2.length + 1) = (zi :: ks2).length from Nat.zero_add _]
  exact AM_lexI ms (.cons (x := (false, oz)) hz hzu al2) listed a w hcl hB hc h
 | @cons k x ks z h0 h1 t ih =>
  intro listed a w hcl hB hc h
  obtain ⟨b, o⟩ := x
  simp only [chkA, Bool.and_eq_true, decide_eq_true_eq] at hB
  obtain ⟨⟨⟨⟨hr, hf⟩, hkm⟩, hB'⟩, hw⟩ := hB
  have hr' : k ∈ Region.ready md ops listed := by simpa using hr
  have hdone : ∀ (listed' : Array Bool) (a' : Act) (w' : World), (Region.seqB md ops gg m listed' = true ∧ wpList P ops Q tail a' w') → ∀ j ∈ Region.ready md ops listed', m ≤ j := fun listed' a' w' hL => seqB_ready hL.1
  rw [show (k :: ks).length + (ks2.length + 1) = (ks.length + (ks2.length + 1)) + 1 by rw [length_cons]; omega]
  cases b with
  | true =>
   obtain ⟨u, hu, h2⟩ := h
   exact AM.un_firstS ms h0 h1 hkm hdone _ _ _ _ hcl (Region.free_spec h0 hf) hr' hu (ih _ _ _ (hcl.set hr') hB' hc h2)
  | false =>
   have h1' : un k = false := h1
   rw [h1', Bool.false_or] at hw
   simp only [Bool.and_eq_true, Bool.not_eq_true', beq_eq_false_iff_ne] at hw
   obtain ⟨⟨⟨⟨hkz, hrz⟩, hfz⟩, how⟩, hBz⟩ := hw
   have hrz' : zi ∈ Region.ready md ops listed := by simpa using hrz
   obtain ⟨ha, hb⟩ := h
   refine AM.an_two ms h0 hz h1' hzu hkm hkz hdone hzm _ _ _ _ hcl hc (Region.free_spec h0 hf) (Region.free_spec hz hfz) (othersWait_spec how) hr' hrz' ?_ ?_
   ·exact AnR.mono hb fun v w' h2 => ih _ _ _ (hcl.set hr') hB' h2.1 h2.2
   ·refine AnR.mono ha fun v w' h2 => ?_
    have := AM_lexI (nn := nn) (gg := gg) ms (Al.cons (x := (false, o)) h0 h1' (t.app al2)) _ _ _ (hcl.set hrz') hBz h2.1 h2.2
    rwa [show (k :: (ks ++ ks2)).length = ks.length + (ks2.length + 1) by rw [length_cons, length_append]; omega] at this
def mixA (nn : Nat) (md : Region.Mode) (ops : Array Oper) (ms : List Bool) (zi : Nat) : Bool :=
 Region.noSelect ops && decide (ms.length ≤ ops.size) && decide (zi < ms.length) && !(ms.getD zi true) &&
 ((List.range ops.size).all fun t => decide (t < ms.length) || (List.range ms.length).all fun i => waits md ops nn t i) &&
 chkA nn md ops (fun i => ms.getD i true) ms.length (ops.size - ms.length) zi (List.range' (zi + 1) (ms.length - (zi + 1))) (List.range' 0 zi) (Array.replicate ops.size false)
theorem wp_region_mixA {nn : Nat} {id : Nat} {Q : Exit → Act → World → Prop} {a : Act} {w : World} {l : List Oper} (ms : List Bool) (zi : Nat) {oz : Oper} (hm : P.follows .mixedOrders = true) (hB : mixA nn .any l.toArray ms zi = true) (hC : C w.drew) (hz : l[zi]? = some oz)
  (h : lexA P l.toArray C Q (l.drop ms.length) oz ((ms.zip l).drop (zi + 1)) ((ms.zip l).take zi) a w.drew) : (Code.region id l.toArray true).wp P Q a w := by
 simp only [mixA, Bool.and_eq_true, decide_eq_true_eq, Bool.not_eq_true'] at hB
 obtain ⟨⟨⟨⟨⟨h1, h2⟩, h3⟩, h4⟩, h5⟩, h6⟩ := hB
 have mS : MixS .any l.toArray ms.length := ⟨Region.noSelect_spec h1, fun i t hi ht hts => by
  have := all_eq_true.1 h5 t (mem_range.2 hts)
  simp only [Bool.or_eq_true, decide_eq_true_eq] at this
  rcases this with h | h
  ·omega
  ·exact ⟨nn, all_eq_true.1 h i (mem_range.2 hi)⟩⟩
 have hle' : ms.length ≤ l.length := by simpa using h2
 have hzl : (ms.zip l).length = ms.length := by rw [length_zip]; omega
 have hzz : ∀ j x, (ms.zip l)[j]? = some x → l.toArray[j]? = some x.2 ∧ (fun i => ms.getD i true) j = x.1 := fun j x hx => by
  rw [List.getElem?_zip_eq_some] at hx
  obtain ⟨x1, x2⟩ := hx
  simp [x1, x2]
 have al1 : Al l.toArray (fun i => ms.getD i true) (List.range' 0 zi) ((ms.zip l).take zi) := by
  have := Al.of (ops := l.toArray) (un := fun i => ms.getD i true) ((ms.zip l).take zi) 0 (fun j x hx => by
   rw [Nat.zero_add]
   rw [List.getElem?_take] at hx
   split at hx
   ·exact hzz j x hx
   ·cases hx)
  rwa [show ((ms.zip l).take zi).length = zi by rw [length_take, hzl]; omega] at this
 have al2 : Al l.toArray (fun i => ms.getD i true) (List.range' (zi + 1) (ms.length - (zi + 1))) ((ms.zip l).drop (zi + 1)) := by
  have := Al.of (ops := l.toArray) (un := fun i => ms.getD i true) ((ms.zip l).drop (zi + 1)) (zi + 1) (fun j x hx => by
   rw [List.getElem?_drop] at hx
   exact hzz _ x hx)
  rwa [show ((ms.zip l).drop (zi + 1)).length = ms.length - (zi + 1) by rw [length_drop, hzl]] at this
 refine wp_region_any hm ?_
 have H := AM_A (P := P) (C := C) (nn := nn) (md := .any) (gg := l.toArray.size - ms.length) (Q := Q) (tail := l.drop ms.length) mS (by simpa using hz) h4 h3 al2 al1 (Array.replicate l.toArray.size false) a w.drew
  (fun j oj _ hl => by rw [getD_replicate_false] at hl; cases hl) h6 hC h
 have := AM.any (Q := Q) (gg := l.toArray.size - ms.length) (fun listed a' w' hL => by
  have := wpAny_of_seq (md := .any) (Q' := Q) (l.drop ms.length) ms.length listed a' w' (fun j => by simp [List.getElem?_drop]) (by rw [length_drop]; simpa using hL.1) hL.2
  simpa using this) _ _ _ _ H
 rw [length_range', length_range', show zi + (ms.length - (zi + 1) + 1) + (l.toArray.size - ms.length) = l.toArray.size by omega] at this
 exact this
end
section
variable {g : World} {P : Program} {ops : Array Oper} {Q : Exit → Act → World → Prop} {n : Nat} {L : Fm} {H H' Hc : HH} {tail : List Oper} {z z2 : List (Bool × Oper)} {o oz : Oper}
theorem anR_of [nd : ND P o] {Qx : Exit → Act → World → Prop} {K : Act → World → Prop} {a : Act} {w : World} (hQ : ∀ e a w, Qx e a w → e = .normal ∧ K a w) (h1 : wpList P ops Qx [o] a w) : AnR P ops o (fun v w' => K (a.put o.dst v) w') a w := by
 have hout : ¬ LetsOut Qx := fun ⟨_, _, h⟩ => by cases (hQ _ _ _ h).1
 simp only [wpList] at h1
 by_cases hwa : Region.wanted o (yielded ops a.tmps) = true
 ·rw [if_pos hwa] at h1
  rcases h1 with h1 | ⟨_, h1⟩
  ·refine .inr ⟨hwa, ?_⟩
   unfold Oper.wp at h1
   cases hr : (execOp a.eval o).run P w with
   | halt x w1 =>
    rw [hr] at h1
    cases x <;> first | exact h1.elim | (cases (hQ _ _ _ h1).1)
   | ok nx w1 =>
    rw [hr] at h1
    rcases nd.h a w nx w1 hr with ⟨v, rfl⟩ | rfl | ⟨f, args, rfl⟩
    ·exact .inl ⟨v, w1, rfl, (hQ _ _ _ h1).2⟩
    ·exact .inr (.inl ⟨w1, rfl, (hQ _ _ _ h1).2⟩)
    ·refine .inr (.inr ⟨f, args, w1, rfl, ?_⟩)
     refine Calls.mono h1 fun e w'' he => ?_
     cases e with
     | returned v => exact ⟨v, rfl, (hQ _ _ _ he).2⟩
     | panicked ch => exact absurd (hQ _ _ _ he).1 (by simp)
     | outgrown => exact (hout he).elim
  ·exact (hout h1).elim
 ·rw [if_neg hwa] at h1
  exact .inl ⟨by simpa using hwa, (hQ _ _ _ h1).2⟩
structure WA (g : World) (P : Program) (ops : Array Oper) (Q : Exit → Act → World → Prop) (n : Nat) (Hc : HH) (tail : List Oper) (oz : Oper) (z2 z : List (Bool × Oper)) (L : Fm) (H : HH) : Prop where
 run : ∀ a w, Fr n L a → on g H.flatten w → lexA P ops (on g Hc.flatten) Q tail oz z2 z a w
def QunA (g : World) (P : Program) (ops : Array Oper) (Q : Exit → Act → World → Prop) (Hc : HH) (tail : List Oper) (oz : Oper) (z2 z : List (Bool × Oper)) (H : HH) : Exit → Act → World → Prop :=
 fun _ a _ => ∀ w, on g H.flatten w → lexA P ops (on g Hc.flatten) Q tail oz z2 z a w
def QanA (g : World) (P : Program) (ops : Array Oper) (Q : Exit → Act → World → Prop) (Hc : HH) (tail : List Oper) (oz : Oper) (z2 z : List (Bool × Oper)) : Exit → Act → World → Prop
 | .normal, a, w => on g Hc.flatten w ∧ lexA P ops (on g Hc.flatten) Q tail oz z2 z a w
 | _, _, _ => False
theorem W.mixA (nn : Nat) {id : Nat} {l : List Oper} (ms : List Bool) (zi : Nat) (Hc : HH) {r : HH} [k : Picks Hc H r] (hm : P.follows .mixedOrders = true) (hB : mixA nn .any l.toArray ms zi = true) (hz : l[zi]? = some oz)
  (h : WA g P l.toArray Q n Hc (l.drop ms.length) oz ((ms.zip l).drop (zi + 1)) ((ms.zip l).take zi) L H) : W g P (.region id l.toArray true) Q n L H := .mk fun a w ha hw =>
 have hd : on g H.flatten w.drew := hw.heap rfl ⟨rfl, rfl, rfl, Nat.le_refl _⟩
 wp_region_mixA (C := on g Hc.flatten) ms zi hm hB ((Hsub.of_picks k).on hd) hz (h.run a _ ha hd)
theorem WA.un {r : HH} [nv : NV P o] [k : Picks Hc H r] (h : WX true g P ops (QunA g P ops Q Hc tail oz z2 z H) n [o] L Hc) : WA g P ops Q n Hc tail oz z2 ((true, o) :: z) L H := ⟨fun a w ha hw => by
 have hc := (Hsub.of_picks k).on hw
 have h1 : wpQuiet P ops (on g Hc.flatten) (fun a' => ∀ w', on g Hc.flatten w' → QunA g P ops Q Hc tail oz z2 z H .normal a' w') [o] a := h a w ha hc
 simp only [wpQuiet] at h1
 by_cases hwa : Region.wanted o (yielded ops a.tmps) = true
 ·rw [if_pos hwa] at h1
  obtain ⟨v, hv, hK⟩ := h1
  refine ⟨v, .inl ⟨hwa, fun w' hw' => ?_⟩, hK w hc w hw⟩
  have h2 := hv w' hw'
  unfold Oper.quietAt at h2
  cases hr : (execOp a.eval o).run P w' with
  | halt x w1 => rw [hr] at h2; exact h2.elim
  | ok nx w1 =>
   obtain ⟨u, rfl⟩ := nv.h a w' nx w1 hr
   rw [hr] at h2
   obtain ⟨rfl, rfl⟩ := h2
   rfl
 ·rw [if_neg hwa] at h1
  exact ⟨undef, .inr ⟨by simpa using hwa, rfl⟩, h1 w hc w hw⟩⟩
theorem WA.backU (h : WA g P ops Q n Hc tail oz z2 z L H) : D g (QunA g P ops Q Hc tail oz z2 z H) .normal n L H' := .mk fun a w ha _ w' hw' => h.run a w' ha hw'
theorem WA.an [nd : ND P o] [ndz : ND P oz] (hz : WX false g P ops (Qan g P ops Q Hc tail ((false, o) :: (z ++ z2))) n [oz] L H) (h : WX false g P ops (QanA g P ops Q Hc tail oz z2 z) n [o] L H) : WA g P ops Q n Hc tail oz z2 ((false, o) :: z) L H :=
 ⟨fun a w ha hw => ⟨anR_of (Qx := Qan g P ops Q Hc tail ((false, o) :: (z ++ z2))) (K := fun a w => on g Hc.flatten w ∧ lexM P ops (on g Hc.flatten) Q tail ((false, o) :: (z ++ z2)) a w) (fun e a w h => by cases e <;> first | exact ⟨rfl, h⟩ | exact h.elim) (hz a w ha hw),
  anR_of (Qx := QanA g P ops Q Hc tail oz z2 z) (K := fun a w => on g Hc.flatten w ∧ lexA P ops (on g Hc.flatten) Q tail oz z2 z a w) (fun e a w h => by cases e <;> first | exact ⟨rfl, h⟩ | exact h.elim) (h a w ha hw)⟩⟩
theorem WA.nil [ndz : ND P oz] (h : WX false g P ops (Qan g P ops Q Hc tail z2) n [oz] L H) : WA g P ops Q n Hc tail oz z2 [] L H :=
 ⟨fun a w ha hw => anR_of (Qx := Qan g P ops Q Hc tail z2) (K := fun a w => on g Hc.flatten w ∧ lexM P ops (on g Hc.flatten) Q tail z2 a w) (fun e a w h => by cases e <;> first | exact ⟨rfl, h⟩ | exact h.elim) (h a w ha hw)⟩
theorem WA.back {r : HH} [k : Picks Hc H r] (h : WA g P ops Q n Hc tail oz z2 z L H) : D g (QanA g P ops Q Hc tail oz z2 z) .normal n L H := .mk fun a w ha hw => ⟨(Hsub.of_picks k).on hw, h.run a w ha hw⟩
end
section
variable {g : World} {P : Program} {ops : Array Oper} {Q : Exit → Act → World → Prop} {q : Bool} {n d ty : Nat} {pos : String} {af : Array Edge} {rest : List Oper} {L : Fm} {H : HH} {v : Value}
variable {x y : Operand} {t b i T m : Nat} {ag : Bool} {cs cs' vs : List Value} {fr : Nat × Nat} {K : Obj → HH}
theorem bdN (cs : List Value) {parts : List (Nat × Operand)} {zs : List Value} {pl : List (Nat × Nat)} [hz : TZ P t zs] [hp : TP P t pl] (k : WX q g P ops Q n rest ((d, .agg cs.toArray) :: L) H) (hx : evs L (parts.map (·.2)) = some vs := by exact rfl)
  (hf' : fillL pl zs ((parts.map (·.1)).zip vs) = some cs := by kernel_rfl) (hd : Nat.blt d n = true := by exact rfl) :
  WX q g P ops Q n (⟨some d, .build t parts.toArray, ty, pos, af, none⟩ :: rest) L H := WX.build hx hf' hd k
theorem lAN (cs vs : List Value) [ht : TL P t m true] (hx : ev L x = some (.pointer (some ⟨b, i, none⟩))) [hf : Foc b (.cells (List.toArray cs) T fr) H K] (k : WX q g P ops Q n rest ((d, .agg vs.toArray) :: L) H)
  (hc : (cs.drop i).take m = vs := by kernel_rfl) (hl : vs.length = m := by kernel_rfl) (hd : Nat.blt d n = true := by exact rfl) :
  WX q g P ops Q n (⟨some d, .load t x, ty, pos, af, none⟩ :: rest) L H := WX.loadA hx hc hl hd k
theorem lN (cs : List Value) (v : Value) [ht : TL P t 1 false] (hx : ev L x = some (.pointer (some ⟨b, i, none⟩))) [hf : Foc b (.cells (List.toArray cs) T fr) H K] (k : WX q g P ops Q n rest ((d, v) :: L) H)
  (hc : cs[i]? = some v := by kernel_rfl) (hd : Nat.blt d n = true := by exact rfl) :
  WX q g P ops Q n (⟨some d, .load t x, ty, pos, af, none⟩ :: rest) L H := WX.load hx hc hd k
theorem sGN (cs vs cs' : List Value) [ht : TL P t m ag] (hx : ev L x = some (.pointer (some ⟨b, i, none⟩))) (hy : ev L y = some v) [hf : Foc b (.cells (List.toArray cs) T (0, 0)) H K] (k : WX false g P ops Q n rest L (K (.cells (List.toArray cs') T (0, 0))))
  (e : setAt cs i vs = cs' := by kernel_rfl) (hv : v.cells = vs.toArray := by kernel_rfl) (hl : vs.length = m := by kernel_rfl) (h1 : oneCells vs = true := by kernel_rfl)
  (hb : Nat.ble (i + vs.length) cs.length = true := by kernel_rfl) : WX false g P ops Q n (⟨none, .store t x y, ty, pos, af, none⟩ :: rest) L H := by subst e; exact WX.storeG hx hy hv hl h1 hb k
theorem stN (cs cs' : List Value) [ht : TL P t 1 false] (hx : ev L x = some (.pointer (some ⟨b, i, none⟩))) (hy : ev L y = some v) [hf : Foc b (.cells (List.toArray cs) T (0, 0)) H K] (k : WX false g P ops Q n rest L (K (.cells (List.toArray cs') T (0, 0))))
  (e : cs.set i v = cs' := by kernel_rfl) (h1 : v.oneCell' = true := by kernel_rfl) (hb : Nat.blt i cs.length = true := by kernel_rfl) : WX false g P ops Q n (⟨none, .store t x y, ty, pos, af, none⟩ :: rest) L H := by subst e; exact WX.store hx hy h1 hb k
theorem sGW (cs vs : List Value) [ht : TL P t m ag] (hx : ev L x = some (.pointer (some ⟨b, 0, none⟩))) (hy : ev L y = some v) [hf : Foc b (.cells (List.toArray cs) T (0, 0)) H K] (k : WX false g P ops Q n rest L (K (.cells (List.toArray vs) T (0, 0))))
  (hv : v.cells = vs.toArray := by kernel_rfl) (hl : vs.length = m := by kernel_rfl) (hlc : cs.length = vs.length := by kernel_rfl) (h1 : oneCells vs = true := by kernel_rfl) : WX false g P ops Q n (⟨none, .store t x y, ty, pos, af, none⟩ :: rest) L H :=
 sGN cs vs vs hx hy k (setAt_whole hlc) hv hl h1 (Nat.ble_eq_true_of_le (by omega))
end
end Go.Sl
namespace Go.Sl
open Go List
section
variable {g : World} {P : Program} {ops : Array Oper} {Q : Exit → Act → World → Prop} {q : Bool} {n d ty : Nat} {pos : String} {af : Array Edge} {rest : List Oper} {L : Fm} {H : HH} {v : Value}
theorem WX.fld {x : Operand} {t f off ft : Nat} {cs : List Value} (hx : ev L x = some (.agg cs.toArray)) [h : TFt P t f off ft] [tl : TL P ft 1 false] (hc : cs[off]? = some v) (hd : Nat.blt d n = true)
  (k : WX q g P ops Q n rest ((d, v) :: L) H) : WX q g P ops Q n (⟨some d, .field t x f, ty, pos, af, none⟩ :: rest) L H :=
 WX.val (fun a ha w _ => by
  obtain ⟨fs, fd, h1, h2, h3, h4⟩ := h.h
  obtain ⟨hl, hv⟩ := List.getElem?_eq_some_iff.1 hc
  obtain ⟨u, hu, hp⟩ := part_at (P := P) (w := w) (t := ft) (off := off) (pre := cs.take off) (mid := [v]) (post := cs.drop (off + 1)) (by rw [tl.a]; rfl) tl.s (fun _ => rfl) (by rw [length_take]; omega)
  have e : cs.take off ++ [v] ++ cs.drop (off + 1) = cs := by rw [← hv, append_assoc]; show cs.take off ++ (cs[off] :: cs.drop (off + 1)) = cs; rw [← drop_eq_getElem_cons hl, take_append_drop]
  rw [e] at hu
  have hp : [v] = [u] := by unfold PartAt at hp; rw [tl.a] at hp; exact hp
  cases hp
  have hu' : (part fd.type cs.toArray fd.offset).run P w = .ok v w := by rw [h3, h4]; exact hu
  simp [execOp, ha.ev hx, Instr.field, underlying, h1, h2, asAgg, hu']) hd k
theorem run_asInt {k : IntKind} {i : Int} {w : World} : (asIntOf (.int k i)).run P w = .ok (k, i) w := rfl
theorem WX.ixA {x y : Operand} {t e len m j : Nat} {kd : IntKind} {cs vs : List Value} (hx : ev L x = some (.agg cs.toArray)) (hy : ev L y = some (.int kd (j : Int))) [ht : TU P t (.array len e)] [tl : TL P e m true] (hj : j < len) (hc : (cs.drop (j * m)).take m = vs) (hd : Nat.blt d n = true)
  (k : WX q g P ops Q n rest ((d, .agg vs.toArray) :: L) H) : WX q g P ops Q n (⟨some d, .index t x y, ty, pos, af, none⟩ :: rest) L H :=
 WX.val (fun a ha w _ => by
  have hv : (part e cs.toArray (j * m)).run P w = .ok (.agg vs.toArray) w := by
   unfold part
   simp [tl.isAgg, tl.sizeOf]
   exact hc
  simp [execOp, ha.ev hx, ha.ev hy, Instr.index, run_asInt, ht.run, tl.sizeOf, hv, hj]) hd k
theorem WX.ix1 {x y : Operand} {t e len j : Nat} {kd : IntKind} {cs : List Value} (hx : ev L x = some (.agg cs.toArray)) (hy : ev L y = some (.int kd (j : Int))) [ht : TU P t (.array len e)] [tl : TL P e 1 false] (hj : j < len) (hc : cs[j]? = some v) (hd : Nat.blt d n = true)
  (k : WX q g P ops Q n rest ((d, v) :: L) H) : WX q g P ops Q n (⟨some d, .index t x y, ty, pos, af, none⟩ :: rest) L H :=
 WX.val (fun a ha w _ => by
  have hv : (part e cs.toArray j).run P w = .ok v w := by
   unfold part
   simp [tl.isAgg, hc]
  simp [execOp, ha.ev hx, ha.ev hy, Instr.index, run_asInt, ht.run, tl.sizeOf, hv, hj]) hd k
end
end Go.Sl

namespace Go.Proofs.YtejfahjgfedliaaGreat
open Go Go.Sl List
structure FileP where
 n : Int
 b : List UInt8 := []
 s : Nat := 0
structure Pc where
 f : Int
 n : Int
instance : Enc Pc := ⟨2, fun p => [.int .i64 p.f, .int .i64 p.n], fun _ => rfl, fun _ => rfl, by decide⟩
structure DkS where
 fs : List FileP := []
 loose : List Pc := []
namespace DkS
variable (S : DkS)
def find (k : Int) : Option FileP := S.fs.find? fun f => decide (f.n = k)
def size (k : Int) : Nat := match S.find k with
 | none => 0
 | some f => f.b.length
def synced (k : Int) : Nat := match S.find k with
 | none => 0
 | some f => f.s
def used : Nat := (S.fs.map (·.b.length)).sum
def names : List Int := sortL (S.fs.map (·.n))
def onF (k : Int) (g : FileP → FileP) : List FileP := S.fs.map fun f => if f.n = k then g f else f
def appE (k : Int) (len : Nat) : Int := if k < 0 ∨ 1099511627776 < k then 50 else if ((S.find k).isNone = true ∧ 64 ≤ S.fs.length) ∨ 1048576 < S.used + len then 51 else 0
def app (k : Int) (b : List UInt8) : DkS :=
 if S.appE k b.length = 0 then { fs := if (S.find k).isNone = true then S.fs ++ [{ n := k, b := b, s := 0 }] else S.onF k fun f => { f with b := f.b ++ b }, loose := S.loose ++ [⟨k, b.length⟩] } else S
def errE (k : Int) : Int := if (S.find k).isNone = true then 50 else 0
def sync (k : Int) : DkS := if (S.find k).isNone = true then S else { fs := S.onF k fun f => { f with s := f.b.length }, loose := S.loose.filter fun p => decide (p.f ≠ k) }
def remove (k : Int) : DkS := if (S.find k).isNone = true then S else { fs := S.fs.filter fun f => decide (f.n ≠ k), loose := S.loose.filter fun p => decide (p.f ≠ k) }
end DkS
structure Fl where
 n : Int
 b : List UInt8
 s : Nat
 blk : Nat
 p : Option Addr
 l : Nat
 c : Nat
 h : Hp
 born : Nat
def Fl.file (f : Fl) : FileP := ⟨f.n, f.b, f.s⟩
def Fl.ok (f : Fl) : Prop := IsSl 5 f.b (.slice f.p f.l f.c) f.h
def Fl.me (f : Fl) : Me := ⟨f.n, .pointer (some ⟨f.blk, 0, none⟩), f.born⟩
abbrev FBk (blk : Nat) (v : Value) (s : Nat) : Hp := [(blk, .cells (List.toArray [v, .int .i64 (s : Int)]) 157 (0, 0))]
def Fl.hp (f : Fl) : Hp := FBk f.blk (.slice f.p f.l f.c) f.s ++ f.h
def fhp (fs : List Fl) : Hp := (fs.map Fl.hp).flatten
abbrev DBk (d m : Nat) (lv : Value) : Hp := [(d, .cells (List.toArray [.map (some m), lv]) 133 (0, 0))]
abbrev MBk (m : Nat) (fs : List Fl) (c : Nat) : Hp := [(m, mob (fs.map Fl.me) c)]
structure Dk3 (S : DkS) (c : Nat) (lv : Value) (fs : List Fl) (lh : Hp) : Prop where
 mp : MpOk (fs.map Fl.me) c
 ok : ∀ f ∈ fs, f.ok
 fs : fs.map Fl.file = S.fs
 sl : IsSl 155 S.loose lv lh
def IsDk (S : DkS) (d : Nat) (h : Hp) : Prop := ∃ m c lv fs lh, Dk3 S c lv fs lh ∧ h = DBk d m lv ++ (MBk m fs c ++ (lh ++ fhp fs))
section
variable {S : DkS} {c : Nat} {lv : Value} {fs : List Fl} {lh : Hp} {k : Int} {f : Fl}
theorem mfind_me : ∀ (fs : List Fl) (k : Int), mfind (fs.map Fl.me) k = (fs.find? fun f => decide (f.n = k)).map Fl.me := by
 intro fs k
 unfold mfind
 rw [List.find?_map]
 rfl
theorem find_file (fs : List Fl) (k : Int) : (fs.map Fl.file).find? (fun f => decide (f.n = k)) = (fs.find? fun f => decide (f.n = k)).map Fl.file := by
 rw [List.find?_map]
 rfl
theorem Dk3.len (h : Dk3 S c lv fs lh) : fs.length = S.fs.length := by rw [← h.fs, length_map]
theorem Dk3.no (h : Dk3 S c lv fs lh) (hk : S.find k = none) : mfind (fs.map Fl.me) k = none ∧ mval (fs.map Fl.me) k (.pointer none) = .pointer none := by
 unfold DkS.find at hk
 rw [← h.fs, find_file] at hk
 have : mfind (fs.map Fl.me) k = none := by
  rw [mfind_me]
  cases hf : fs.find? fun f => decide (f.n = k) with
  | none => rfl
  | some f => rw [hf] at hk; cases hk
 exact ⟨this, by unfold mval; rw [this]⟩
theorem Dk3.has (h : Dk3 S c lv fs lh) {x : FileP} (hk : S.find k = some x) : ∃ f pre post, fs = pre ++ f :: post ∧ f.file = x ∧ f.n = k ∧ f.ok ∧ (∀ f' ∈ pre, f'.n ≠ k) ∧ (∀ f' ∈ post, f'.n ≠ k) ∧ mval (fs.map Fl.me) k (.pointer none) = .pointer (some ⟨f.blk, 0, none⟩) := by
 unfold DkS.find at hk
 rw [← h.fs, find_file] at hk
 cases hf : fs.find? fun f => decide (f.n = k) with
 | none => rw [hf] at hk; cases hk
 | some f =>
  rw [hf] at hk
  have hx : f.file = x := by simpa using hk
  have hn : f.n = k := by simpa using List.find?_some hf
  obtain ⟨pre, post, e, hp⟩ := List.find?_eq_some_iff_append.1 hf |>.2
  have hks := h.mp.ks
  rw [e] at hks
  simp only [map_append, map_cons] at hks
  rw [nodup_append] at hks
  obtain ⟨_, h2, _⟩ := hks
  rw [nodup_cons] at h2
  refine ⟨f, pre, post, e, hx, hn, h.ok f (mem_of_find?_eq_some hf), fun f' hf' => by have := hp f' hf'; simpa using this, fun f' hf' he => ?_, ?_⟩
  ·exact h2.1 (mem_map.2 ⟨f'.me, mem_map.2 ⟨f', hf', rfl⟩, he.trans hn.symm⟩)
  ·unfold mval
   rw [mfind_me, hf]
   rfl
theorem fhp_split {pre post : List Fl} : fhp (pre ++ f :: post) = fhp pre ++ (FBk f.blk (.slice f.p f.l f.c) f.s ++ (f.h ++ fhp post)) := by simp [fhp, Fl.hp]
end
theorem used_sum {fs : List Fl} : ((fs.map Fl.file).map (·.b.length)).sum = (fs.map (·.b.length)).sum := by rw [map_map]; rfl
end Go.Proofs.YtejfahjgfedliaaGreat

namespace Go.Proofs.YtejfahjgfedliaaGreat
open Go Go.Sl Go.Proofs.Tryz List
theorem dnew_ct : Ct prog 44 [] [] (fun r H' => ∃ d h', r = .pointer (some ⟨d, 0, none⟩) ∧ H' = [h'] ∧ IsDk {} d h') := by
 refine Ct.pack (pre := []) (post := fun r H' => ∃ d m, r = .pointer (some ⟨d, 0, none⟩) ∧ H' = [DBk d m (.slice none 0 0), MBk m [] 0]) ?_ rfl (fun r H' ⟨d, m, e, f⟩ => ⟨[DBk d m (.slice none 0 0) ++ (MBk m [] 0 ++ ([] ++ fhp []))], by rw [f]; simp [fhp], d, _, e, rfl, m, 0, _, [], [], ⟨MpOk.new, by simp, rfl, IsSl.nil _⟩, rfl⟩)
 refine Ct.mk' func44 rfl rfl rfl (fun g R => ?_)
 try simp only [ca]
 simp only [na]
 repeat' (first | refine run ?_ | refine bx rfl (fun _ => ?_) | (refine WX.makeMap rfl (fun _ => ?_)) | fail)
 rename_i m d
 refine D.flat (H' := [DBk d m (.slice none 0 0), MBk m [] 0, R]) rfl ?_
 exact D.fin1 [DBk d m (.slice none 0 0), MBk m [] 0] _ rfl rfl ⟨d, m, rfl, rfl⟩
theorem size_ct {S : DkS} {d : Nat} {h : Hp} (hd : IsDk S d h) (k : Int) :
  Ct prog 92 [.pointer (some ⟨d, 0, none⟩), .int .i64 k] [h] (fun r H' => r = .int .i64 (S.size k : Int) ∧ H' = [h]) := by
 obtain ⟨m, c, lv, fs, lh, hd, rfl⟩ := hd
 cases hk : S.find k with
 | none =>
  obtain ⟨_, hv⟩ := hd.no hk
  refine Ct.pack (pre := [DBk d m lv, MBk m fs c, lh, fhp fs]) (post := fun r H' => r = .int .i64 0 ∧ H' = [DBk d m lv, MBk m fs c, lh, fhp fs]) ?_ (by simp) (fun r H' p => ⟨[DBk d m lv ++ (MBk m fs c ++ (lh ++ fhp fs))], by rw [p.2]; simp, by rw [p.1, DkS.size, hk]; rfl, rfl⟩)
  refine Ct.mk' func92 rfl rfl rfl (fun g R => ?_)
  try simp only [ca]
  simp only [na]
  try refine run ?_
  refine WX.lookup rfl rfl rfl ?_
  rw [hv]
  try refine run ?_
  exact D.fin1 [DBk d m lv, MBk m fs c, lh, fhp fs] _ rfl rfl ⟨rfl, rfl⟩
 | some x =>
  obtain ⟨f, pre, post, rfl, rfl, hn, hok, h1, h2, hv⟩ := hd.has hk
  have hr := IsSl.rs hok
  refine Ct.pack (pre := [DBk d m lv, MBk m (pre ++ f :: post) c, lh, fhp pre, FBk f.blk (.slice f.p f.l f.c) f.s, f.h, fhp post]) (post := fun r H' => r = .int .i64 (f.b.length : Int) ∧ H' = [DBk d m lv, MBk m (pre ++ f :: post) c, lh, fhp pre, FBk f.blk (.slice f.p f.l f.c) f.s, f.h, fhp post]) ?_ (by rw [fhp_split]; simp) (fun r H' p => ⟨[DBk d m lv ++ (MBk m (pre ++ f :: post) c ++ (lh ++ fhp (pre ++ f :: post)))], by rw [p.2, fhp_split]; simp, by rw [p.1, DkS.size, hk]; rfl, rfl⟩)
  refine Ct.mk' func92 rfl rfl rfl (fun g R => ?_)
  try simp only [ca]
  simp only [na]
  try refine run ?_
  refine WX.lookup rfl rfl rfl ?_
  rw [hv]
  try refine run ?_
  exact D.fin1 [DBk d m lv, MBk m (pre ++ f :: post) c, lh, fhp pre, FBk f.blk (.slice f.p f.l f.c) f.s, f.h, fhp post] _ rfl rfl ⟨rfl, rfl⟩
theorem synced_ct {S : DkS} {d : Nat} {h : Hp} (hd : IsDk S d h) (k : Int) :
  Ct prog 125 [.pointer (some ⟨d, 0, none⟩), .int .i64 k] [h] (fun r H' => r = .int .i64 (S.synced k : Int) ∧ H' = [h]) := by
 obtain ⟨m, c, lv, fs, lh, hd, rfl⟩ := hd
 cases hk : S.find k with
 | none =>
  obtain ⟨_, hv⟩ := hd.no hk
  refine Ct.pack (pre := [DBk d m lv, MBk m fs c, lh, fhp fs]) (post := fun r H' => r = .int .i64 0 ∧ H' = [DBk d m lv, MBk m fs c, lh, fhp fs]) ?_ (by simp) (fun r H' p => ⟨[DBk d m lv ++ (MBk m fs c ++ (lh ++ fhp fs))], by rw [p.2]; simp, by rw [p.1, DkS.synced, hk]; rfl, rfl⟩)
  refine Ct.mk' func125 rfl rfl rfl (fun g R => ?_)
  try simp only [ca]
  simp only [na]
  try refine run ?_
  refine WX.lookup rfl rfl rfl ?_
  rw [hv]
  try refine run ?_
  exact D.fin1 [DBk d m lv, MBk m fs c, lh, fhp fs] _ rfl rfl ⟨rfl, rfl⟩
 | some x =>
  obtain ⟨f, pre, post, rfl, rfl, hn, hok, h1, h2, hv⟩ := hd.has hk
  have hr := IsSl.rs hok
  refine Ct.pack (pre := [DBk d m lv, MBk m (pre ++ f :: post) c, lh, fhp pre, FBk f.blk (.slice f.p f.l f.c) f.s, f.h, fhp post]) (post := fun r H' => r = .int .i64 (f.s : Int) ∧ H' = [DBk d m lv, MBk m (pre ++ f :: post) c, lh, fhp pre, FBk f.blk (.slice f.p f.l f.c) f.s, f.h, fhp post]) ?_ (by rw [fhp_split]; simp) (fun r H' p => ⟨[DBk d m lv ++ (MBk m (pre ++ f :: post) c ++ (lh ++ fhp (pre ++ f :: post)))], by rw [p.2, fhp_split]; simp, by rw [p.1, DkS.synced, hk]; rfl, rfl⟩)
  refine Ct.mk' func125 rfl rfl rfl (fun g R => ?_)
  try simp only [ca]
  simp only [na]
  try refine run ?_
  refine WX.lookup rfl rfl rfl ?_
  rw [hv]
  try refine run ?_
  exact D.fin1 [DBk d m lv, MBk m (pre ++ f :: post) c, lh, fhp pre, FBk f.blk (.slice f.p f.l f.c) f.s, f.h, fhp post] _ rfl rfl ⟨rfl, rfl⟩
theorem clone_ct {xs : List UInt8} {v : Value} {h : Hp} (hs : Rs xs v h) (hl : xs.length ≤ 1099511627776) :
  Ct prog 142 [v] [h] (fun r H' => ∃ h', IsSl 5 xs r h' ∧ H' = [h', h]) := by
 obtain ⟨p, c, rfl⟩ := hs.len
 refine Ct.mk' func142 rfl rfl rfl (fun g R => ?_)
 try simp only [ca]
 simp only [na]
 cases p with
 | none =>
  have hx : xs = [] := by
   obtain ⟨a, c', e, _, f⟩ := hs
   cases e
   cases xs with
   | nil => rfl
   | cons y r => obtain ⟨b, off, e, _⟩ := f 0 y rfl; cases e
  subst hx
  repeat' (first | refine run ?_ | refine WX.eqlN rfl rfl rfl ?_ | fail)
  exact D.fin1 [[], h] _ rfl rfl ⟨_, IsSl.nil _, rfl⟩
 | some a =>
  repeat' (first | refine run ?_ | refine WX.eqlN rfl rfl rfl ?_ | fail)
  refine I.bs ?_
  refine WX.lit (ys := ([] : List UInt8)) (vs := []) rfl rfl rfl rfl rfl rfl (by decide) rfl (fun v1 h1 hs1 => ?_)
  try refine run ?_
  refine WX.app rfl rfl hs1 hs rfl rfl (by decide) (by simp only [length_nil]; omega) rfl (fun v2 h2 hs2 => ?_)
  rw [nil_append] at hs2
  try refine run ?_
  exact D.fin1 [h2, h] _ rfl rfl ⟨_, hs2, rfl⟩
def DkS.readB (S : DkS) (k : Int) : List UInt8 := match S.find k with
 | none => []
 | some f => f.b
theorem read_ct {S : DkS} {d : Nat} {h : Hp} (hd : IsDk S d h) (k : Int) (hl : (S.readB k).length ≤ 1099511627776) :
  Ct prog 89 [.pointer (some ⟨d, 0, none⟩), .int .i64 k] [h] (fun r H' => ∃ u hb, r = .tuple #[u, .int .i64 (S.errE k)] ∧ H' = [h, hb] ∧ IsSl 5 (S.readB k) u hb) := by
 obtain ⟨m, c, lv, fs, lh, hd, rfl⟩ := hd
 unfold DkS.readB at hl ⊢
 cases hk : S.find k with
 | none =>
  obtain ⟨_, hv⟩ := hd.no hk
  refine Ct.pack (pre := [DBk d m lv, MBk m fs c, lh, fhp fs]) (post := fun r H' => r = .tuple #[.slice none 0 0, .int .i64 50] ∧ H' = [DBk d m lv, MBk m fs c, lh, fhp fs]) ?_ (by simp) (fun r H' p => ⟨[DBk d m lv ++ (MBk m fs c ++ (lh ++ fhp fs)), []], by rw [p.2]; simp, _, [], by rw [p.1, DkS.errE, hk]; rfl, rfl, IsSl.nil _⟩)
  refine Ct.mk' func89 rfl rfl rfl (fun g R => ?_)
  try simp only [ca]
  simp only [na]
  try refine run ?_
  refine WX.lookup rfl rfl rfl ?_
  rw [hv]
  try refine run ?_
  exact D.fin2 [DBk d m lv, MBk m fs c, lh, fhp fs] _ rfl rfl rfl ⟨rfl, rfl⟩
 | some x =>
  obtain ⟨f, pre, post, rfl, rfl, hn, hok, h1, h2, hv⟩ := hd.has hk
  have hr := IsSl.rs hok
  rw [hk] at hl
  have hl : f.b.length ≤ 1099511627776 := hl
  refine Ct.pack (pre := [DBk d m lv, MBk m (pre ++ f :: post) c, lh, fhp pre, FBk f.blk (.slice f.p f.l f.c) f.s, f.h, fhp post]) (post := fun r H' => ∃ u hb, r = .tuple #[u, .int .i64 0] ∧ H' = [DBk d m lv, MBk m (pre ++ f :: post) c, lh, fhp pre, FBk f.blk (.slice f.p f.l f.c) f.s, f.h, fhp post] ++ [hb] ∧ IsSl 5 f.b u hb) ?_ (by rw [fhp_split]; simp)
   (fun r H' ⟨u, hb, e1, e2, e3⟩ => ⟨[DBk d m lv ++ (MBk m (pre ++ f :: post) c ++ (lh ++ fhp (pre ++ f :: post))), hb], by rw [e2, fhp_split]; simp, u, hb, by rw [e1, DkS.errE, hk]; rfl, rfl, e3⟩)
  refine Ct.mk' func89 rfl rfl rfl (fun g R => ?_)
  try simp only [ca]
  simp only [na]
  try refine run ?_
  refine WX.lookup rfl rfl rfl ?_
  rw [hv]
  try refine run ?_
  refine WX.call rfl (clone_ct hr hl) rfl ?_
  rintro u _ ⟨hb, hsb, rfl⟩
  simp only [ca, na]
  try refine run ?_
  exact D.fin2 [DBk d m lv, MBk m (pre ++ f :: post) c, lh, fhp pre, FBk f.blk (.slice f.p f.l f.c) f.s, f.h, fhp post, hb] _ rfl rfl rfl ⟨_, _, rfl, rfl, hsb⟩
def Vis (fs vis : List Fl) : Prop := ∃ rest, (vis ++ rest).Perm fs
theorem Vis.start (fs : List Fl) : Vis fs [] := ⟨fs, List.Perm.refl _⟩
theorem Vis.mem {fs vis : List Fl} (h : Vis fs vis) : ∀ z ∈ vis.map Fl.me, z ∈ fs.map Fl.me := by
 obtain ⟨rest, hp⟩ := h
 intro z hz
 obtain ⟨f, hf, rfl⟩ := mem_map.1 hz
 exact mem_map.2 ⟨f, hp.mem_iff.1 (mem_append_left _ hf), rfl⟩
theorem Vis.le {fs vis : List Fl} (h : Vis fs vis) : vis.length ≤ fs.length := by
 obtain ⟨rest, hp⟩ := h
 have := hp.length_eq
 rw [length_append] at this
 omega
theorem Vis.done {fs vis : List Fl} {c : Nat} (h : Vis fs vis) (mp : MpOk (fs.map Fl.me) c) (ha : ∀ z ∈ fs.map Fl.me, z ∈ vis.map Fl.me) : vis.Perm fs := by
 obtain ⟨rest, hp⟩ := h
 have hn : ((vis ++ rest).map (fun f => f.me.k)).Nodup := by
  have h1 := mp.ks
  rw [map_map] at h1
  exact (hp.map _).nodup_iff.2 h1
 cases rest with
 | nil => simpa using hp
 | cons f r =>
  have hf : f.me ∈ vis.map Fl.me := ha _ (mem_map.2 ⟨f, hp.mem_iff.1 (by simp), rfl⟩)
  obtain ⟨f', hf', he⟩ := mem_map.1 hf
  rw [map_append, nodup_append] at hn
  exact absurd (congrArg Me.k he) (hn.2.2 _ (mem_map.2 ⟨f', hf', rfl⟩) _ (mem_map.2 ⟨f, by simp, rfl⟩))
theorem Vis.step {fs vis : List Fl} {f : Fl} (h : Vis fs vis) (hf : f ∈ fs) (hv : f.me ∉ vis.map Fl.me) : Vis fs (vis ++ [f]) ∧ vis.length < fs.length := by
 obtain ⟨rest, hp⟩ := h
 have h1 : f ∈ rest := by
  rcases mem_append.1 (hp.mem_iff.2 hf) with h | h
  ·exact absurd (mem_map.2 ⟨f, h, rfl⟩) hv
  ·exact h
 obtain ⟨a, b, rfl⟩ := append_of_mem h1
 refine ⟨⟨a ++ b, ?_⟩, ?_⟩
 ·refine List.Perm.trans ?_ hp
  rw [append_assoc]
  exact List.Perm.append_left _ (by simpa using (perm_middle (a := f) (l₁ := a) (l₂ := b)).symm)
 ·have := hp.length_eq
  simp at this
  omega
theorem sum_le_of_vis {fs vis : List Fl} (h : Vis fs vis) : (vis.map (·.b.length)).sum ≤ (fs.map (·.b.length)).sum := by
 obtain ⟨rest, hp⟩ := h
 rw [← (hp.map (·.b.length)).sum_nat, map_append, sum_append_nat]
 omega
theorem used_ct {S : DkS} {d : Nat} {h : Hp} (hd : IsDk S d h) (hu : S.used ≤ 1099511627776) :
  Ct prog 137 [.pointer (some ⟨d, 0, none⟩)] [h] (fun r H' => r = .int .i64 (S.used : Int) ∧ H' = [h]) := by
 obtain ⟨m, c, lv, fs, lh, hd, rfl⟩ := hd
 have hus : S.used = (fs.map (·.b.length)).sum := by unfold DkS.used; rw [← hd.fs, used_sum]
 refine Ct.pack (pre := [DBk d m lv, MBk m fs c, lh, fhp fs]) (post := fun r H' => r = .int .i64 (S.used : Int) ∧ H' = [DBk d m lv, MBk m fs c, lh, fhp fs]) ?_ (by simp) (fun r H' p => ⟨[DBk d m lv ++ (MBk m fs c ++ (lh ++ fhp fs))], by rw [p.2]; simp, p.1, rfl⟩)
 refine Ct.mk' func137 rfl rfl rfl (fun g R => ?_)
 try simp only [ca]
 simp only [na]
 try refine run ?_
 refine WX.range rfl rfl (fun r => ?_)
 try refine run ?_
 refine W.loop (α := List Fl) (fun vis => Vis fs vis) (fun vis => [(3, .int .i64 ((vis.map (·.b.length)).sum : Nat)), (10, .pointer (some ⟨r, 0, none⟩))]) (fun vis => [[(r, itob m c (vis.map Fl.me))], DBk d m lv, MBk m fs c, lh, fhp fs, R]) (fun vis => fs.length - vis.length) [] (Vis.start fs) (by repeat (first | exact Fsub.nil | refine Fsub.cons rfl ?_)) (by show Hsub _ [[(r, itob m c [])], DBk d m lv, MBk m fs c, lh, fhp fs, R]; exact (Hsub.of_picks inferInstance)) ?_
 intro vis hv
 try refine run ?_
 refine WX.next rfl hd.mp hv.mem rfl (fun ha => ?_) (fun z hz hzv => ?_)
 ·have hp := hv.done hd.mp ha
  try refine run ?_
  exact D.fin1 [DBk d m lv, MBk m fs c, lh, fhp fs] _ rfl rfl ⟨by rw [hus, (hp.map (·.b.length)).sum_nat], rfl⟩
 ·obtain ⟨f, hf, rfl⟩ := mem_map.1 hz
  obtain ⟨hv2, hlt⟩ := hv.step hf hzv
  obtain ⟨pre, post, hfe⟩ := append_of_mem hf
  have hfh : fhp fs = fhp pre ++ (FBk f.blk (.slice f.p f.l f.c) f.s ++ (f.h ++ fhp post)) := by rw [hfe, fhp_split]
  have hr : Rs f.b (.slice f.p f.l f.c) f.h := (hd.ok f hf).rs
  have hsl := sum_le_of_vis hv2
  rw [← hus] at hsl
  have hsn : ((vis ++ [f]).map (·.b.length)).sum = (vis.map (·.b.length)).sum + f.b.length := by simp [sum_append_nat]
  refine WX.flat (H' := [[(r, itob m c (vis.map Fl.me ++ [f.me]))], DBk d m lv, MBk m fs c, lh, fhp pre, FBk f.blk (.slice f.p f.l f.c) f.s, f.h, fhp post, R]) (by simp [hfh]) ?_
  try refine run ?_
  refine WX.entry (vis := vis.map Fl.me) (z := f.me) rfl hd.mp (mem_map.2 ⟨f, hf, rfl⟩) rfl ?_
  try refine run ?_
  refine D.as 3 (.int .i64 (((vis ++ [f]).map (·.b.length)).sum : Nat)) rfl (by rw [hsn]; congr 1) ?_
  refine D.flat (H' := [[(r, itob m c ((vis ++ [f]).map Fl.me))], DBk d m lv, MBk m fs c, lh, fhp fs, R]) (by simp [hfh]) ?_
  exact D.rd (vis ++ [f]) hv2 (by simp only [length_append, length_cons, length_nil]; omega)
theorem sortL_perm {xs ys : List Int} (h : xs.Perm ys) : sortL xs = sortL ys := by
 have ht : ∀ a b c : Int, decide (a ≤ b) = true → decide (b ≤ c) = true → decide (a ≤ c) = true := fun a b c h1 h2 => by simp at *; omega
 have hto : ∀ a b : Int, (decide (a ≤ b) || decide (b ≤ a)) = true := fun a b => by simp; omega
 refine List.Perm.eq_of_pairwise (le := fun a b => decide (a ≤ b) = true) ?_ (pairwise_mergeSort ht hto xs) (pairwise_mergeSort ht hto ys) ?_
 ·intro a b _ _ h1 h2
  simp at h1 h2; omega
 ·exact (mergeSort_perm xs _).trans (h.trans (mergeSort_perm ys _).symm)
theorem files_ct {S : DkS} {d : Nat} {h : Hp} (hd : IsDk S d h) (hl : S.fs.length ≤ 1099511627776) :
  Ct prog 88 [.pointer (some ⟨d, 0, none⟩)] [h] (fun r H' => ∃ hb, H' = [h, hb] ∧ IsSl 3 S.names r hb) := by
 obtain ⟨m, c, lv, fs, lh, hd, rfl⟩ := hd
 have hlen := hd.len
 refine Ct.pack (pre := [DBk d m lv, MBk m fs c, lh, fhp fs]) (post := fun r H' => ∃ hb, H' = [DBk d m lv, MBk m fs c, lh, fhp fs, hb] ∧ IsSl 3 S.names r hb) ?_ (by simp) (fun r H' ⟨hb, e, p⟩ => ⟨[DBk d m lv ++ (MBk m fs c ++ (lh ++ fhp fs)), hb], by rw [e]; simp, hb, rfl, p⟩)
 refine Ct.mk' func88 rfl rfl rfl (fun g R => ?_)
 try simp only [ca]
 simp only [na]
 try refine run ?_
 refine WX.range rfl rfl (fun r => ?_)
 try refine run ?_
 refine W.flat (H' := [[(r, itob m c [])], DBk d m lv, MBk m fs c, lh, fhp fs, [], R]) (by simp) ?_
 refine W.loop (α := List Fl × Value × Hp) (fun x => Vis fs x.1 ∧ IsSl 3 (x.1.map (·.n)) x.2.1 x.2.2) (fun x => [(3, x.2.1), (9, .pointer (some ⟨r, 0, none⟩))]) (fun x => [[(r, itob m c (x.1.map Fl.me))], DBk d m lv, MBk m fs c, lh, fhp fs, x.2.2, R]) (fun x => fs.length - x.1.length)
  ([], .slice none 0 0, []) ⟨Vis.start fs, IsSl.nil _⟩ (by repeat (first | exact Fsub.nil | refine Fsub.cons rfl ?_)) (by show Hsub _ [[(r, itob m c [])], DBk d m lv, MBk m fs c, lh, fhp fs, [], R]; exact (Hsub.of_picks inferInstance)) ?_
 rintro ⟨vis, u, hu⟩ ⟨hv, hs⟩
 simp only [] at hv hs ⊢
 have hvl := hv.le
 try refine run ?_
 refine WX.next rfl hd.mp hv.mem rfl (fun ha => ?_) (fun z hz hzv => ?_)
 ·have hp := hv.done hd.mp ha
  have hnm : sortL (vis.map (·.n)) = S.names := by
   unfold DkS.names
   rw [← hd.fs, map_map]
   exact sortL_perm (hp.map _)
  try refine run ?_
  refine WX.call rfl (sort_ct hs (by rw [length_map]; omega)) rfl ?_
  rintro _ _ ⟨rfl, h', rfl, hs'⟩
  rw [hnm] at hs'
  simp only [ca, na]
  try refine run ?_
  exact D.fin1 [DBk d m lv, MBk m fs c, lh, fhp fs, h'] _ rfl rfl ⟨_, rfl, hs'⟩
 ·obtain ⟨f, hf, rfl⟩ := mem_map.1 hz
  obtain ⟨hv2, hlt⟩ := hv.step hf hzv
  try refine run ?_
  refine WX.entry (vis := vis.map Fl.me) (z := f.me) rfl hd.mp (mem_map.2 ⟨f, hf, rfl⟩) rfl ?_
  try refine run ?_
  refine I.bs ?_
  refine WX.lit (ys := [f.n]) rfl rfl rfl rfl rfl rfl (by decide) rfl (fun v1 h1 hs1 => ?_)
  refine WX.app rfl rfl hs hs1.rs rfl rfl (by decide) (by rw [length_map]; simp only [length_cons, length_nil]; omega) rfl (fun v2 h2 hs2 => ?_)
  try refine run ?_
  have hmm : vis.map Fl.me ++ [f.me] = (vis ++ [f]).map Fl.me := by simp
  rw [hmm]
  refine D.rd (vis ++ [f], v2, h2) ⟨hv2, by simpa using hs2⟩ (by simp only [length_append, length_cons, length_nil]; omega)
abbrev NumBk (nb : Nat) (k : Int) : Hp := [(nb, .cells (List.toArray [.int .i64 k]) 3 (0, 0))]
def delV (nb : Nat) : Value := .func (.func 191) (List.toArray []) (List.toArray [.pointer (some ⟨nb, 0, none⟩)])
def keepP (k : Int) (p : Pc) : Bool := decide (p.f ≠ k)
theorem isFile_ct (nb : Nat) (k : Int) (p : Pc) : Ct prog 191 [.agg (Enc.enc p).toArray, .pointer (some ⟨nb, 0, none⟩)] [NumBk nb k] (fun r H' => r = .bool (decide (p.f = k)) ∧ H' = [NumBk nb k]) := by
 refine Ct.mk' func191 rfl rfl rfl (fun g R => ?_)
 try simp only [ca]
 simp only [na]
 repeat' (first | refine run ?_ | refine bx rfl (fun _ => ?_) | fail)
 exact D.fin1 [NumBk nb k] _ rfl rfl ⟨rfl, rfl⟩
theorem indexF_ct {ps : List Pc} {v : Value} {h : Hp} (hs : Rs ps v h) (nb : Nat) (k : Int) (hl : ps.length ≤ 1099511627776) :
  Ct prog 230 [v, delV nb] [h, NumBk nb k] (fun r H' => r = (match ps.findIdx? (fun p => decide (p.f = k)) with | none => .int .i64 (-1) | some i => .int .i64 (i : Int)) ∧ H' = [h, NumBk nb k]) := by
 refine Ct.mk' func230 rfl rfl rfl (fun g R => ?_)
 try simp only [ca]
 simp only [na]
 try refine run ?_
 refine W.loop (α := Nat) (fun j => j ≤ ps.length ∧ ∀ i p, i < j → ps[i]? = some p → ¬ p.f = k) (fun j => [(0, v), (1, delV nb), (7, .int .i64 (ps.length : Int)), (8, .int .i64 (j : Int))]) (fun _ => [h, NumBk nb k, R]) (fun j => ps.length - j) 0 ⟨Nat.zero_le _, fun i p h => absurd h (by omega)⟩ (by repeat (first | exact Fsub.nil | refine Fsub.cons rfl ?_)) (Hsub.of_picks inferInstance) ?_
 rintro j ⟨hj, hall⟩
 by_cases hlt : j < ps.length
 ·obtain ⟨p, hp⟩ : ∃ p, ps[j]? = some p := ⟨_, List.getElem?_eq_getElem hlt⟩
  try refine run ?_
  refine WX.callV rfl rfl (isFile_ct nb k p) rfl ?_
  rintro _ _ ⟨rfl, rfl⟩
  by_cases hpk : p.f = k
  ·simp only [ca, na]
   try refine run ?_
   have hf : ps.findIdx? (fun p => decide (p.f = k)) = some j := by
    rw [List.findIdx?_eq_some_iff_getElem]
    obtain ⟨h1, h2⟩ := List.getElem?_eq_some_iff.1 hp
    refine ⟨h1, by rw [h2]; simpa using hpk, fun i hi => ?_⟩
    have := hall i _ hi (List.getElem?_eq_getElem (by omega))
    simpa using this
   exact D.fin1 [h, NumBk nb k] _ rfl rfl ⟨by rw [hf], rfl⟩
  ·simp only [ca, na]
   try refine run ?_
   refine D.rd (j + 1) ⟨by omega, fun i p' hi hp' => ?_⟩ (by omega)
   rcases Nat.lt_or_ge i j with h | h
   ·exact hall i p' h hp'
   ·obtain rfl : i = j := by omega
    rw [hp] at hp'
    cases hp'
    exact hpk
 ·have hf : ps.findIdx? (fun p => decide (p.f = k)) = none := by
   rw [List.findIdx?_eq_none_iff]
   intro x hx
   obtain ⟨i, hi⟩ := mem_iff_getElem?.1 hx
   have hlt := (List.getElem?_eq_some_iff.1 hi).1
   simpa using hall i x (by omega) hi
  try refine run ?_
  exact D.fin1 [h, NumBk nb k] _ rfl rfl ⟨by rw [hf], rfl⟩
def kept (k : Int) (ps : List Pc) (j : Nat) : List Pc := (ps.take j).filter (keepP k)
theorem kept_succ {k : Int} {ps : List Pc} {j : Nat} {p : Pc} (h : ps[j]? = some p) : kept k ps (j + 1) = kept k ps j ++ (if p.f = k then [] else [p]) := by
 obtain ⟨h1, h2⟩ := List.getElem?_eq_some_iff.1 h
 unfold kept
 rw [take_succ_eq_append_getElem h1, h2, filter_append]
 congr 1
 by_cases hp : p.f = k
 ·simp [keepP, hp]
 ·simp [keepP, hp]
structure DelI (k : Int) (ps : List Pc) (j : Nat) (l : List Pc) : Prop where
 len : l.length = ps.length
 lt : (kept k ps j).length < j
 pre : l.take (kept k ps j).length = kept k ps j
 post : ∀ i, j ≤ i → l[i]? = ps[i]?
set_option maxHeartbeats 1000000 in
theorem deleteF_ct {ps : List Pc} {v : Value} {h : Hp} (hs : IsSl 155 ps v h) (nb : Nat) (k : Int) (hl : ps.length ≤ 1099511627776) :
  Ct prog 190 [v, delV nb] [h, NumBk nb k] (fun r H' => ∃ h', H' = [h', NumBk nb k] ∧ IsSl 155 (ps.filter (keepP k)) r h') := by
 have hix := indexF_ct hs.rs nb k hl
 have hr0 := hs.rs
 cases hf : ps.findIdx? (fun p => decide (p.f = k)) with
 | none =>
  rw [hf] at hix
  have hall : ps.filter (keepP k) = ps := by
   rw [filter_eq_self]
   rw [List.findIdx?_eq_none_iff] at hf
   intro p hp
   have := hf p hp
   simpa [keepP] using this
  rw [hall]
  refine Ct.mk' func190 rfl rfl rfl (fun g R => ?_)
  try simp only [ca]
  simp only [na]
  try refine run ?_
  refine WX.callQ rfl hix rfl ?_
  try refine run ?_
  exact D.fin1 [h, NumBk nb k] _ rfl rfl ⟨_, rfl, hs⟩
 | some i0 =>
  rw [hf] at hix
  simp only [] at hix
  rw [List.findIdx?_eq_some_iff_getElem] at hf
  obtain ⟨hi0, hik, hib⟩ := hf
  have hk0 : kept k ps i0 = ps.take i0 := by
   unfold kept
   rw [filter_eq_self]
   intro p hp
   obtain ⟨j, hj, he⟩ := mem_take_iff_getElem.1 hp
   have := hib j (by omega)
   rw [he] at this
   simpa [keepP] using this
  have hk1 : kept k ps (i0 + 1) = ps.take i0 := by
   rw [kept_succ (List.getElem?_eq_getElem hi0), hk0, if_pos (by simpa using hik), append_nil]
  have hkl : (kept k ps (i0 + 1)).length = i0 := by rw [hk1, length_take]; omega
  refine Ct.mk' func190 rfl rfl rfl (fun g R => ?_)
  try simp only [ca]
  simp only [na]
  try refine run ?_
  refine WX.callQ rfl hix rfl ?_
  try refine run ?_
  refine W.as 5 (.int .i64 ((kept k ps (i0 + 1)).length : Int)) rfl (by rw [hkl]) ?_
  refine W.as 6 (.int .i64 ((i0 + 1 : Nat) : Int)) rfl (by congr 1) ?_
  refine W.loop (α := Nat × List Pc × Hp) (fun x => x.1 ≤ ps.length ∧ DelI k ps x.1 x.2.1 ∧ IsSl 155 x.2.1 v x.2.2) (fun x => [(0, v), (1, delV nb), (5, .int .i64 ((kept k ps x.1).length : Int)), (6, .int .i64 (x.1 : Int))]) (fun x => [x.2.2, NumBk nb k, R]) (fun x => ps.length - x.1)
   (i0 + 1, ps, h) ⟨by simp only []; omega, ⟨rfl, by rw [hkl]; omega, by rw [hkl, hk1], fun _ _ => rfl⟩, hs⟩ (by repeat (first | exact Fsub.nil | refine Fsub.cons rfl ?_)) (Hsub.of_picks inferInstance) ?_
  clear hr0
  rintro ⟨j, l, h2⟩ ⟨hj, hI, hsl⟩
  simp only [] at hj hI hsl ⊢
  have hrl := hsl.rs
  have hll := hI.len
  have hkj := hI.lt
  by_cases hlt : j < ps.length
  ·obtain ⟨p, hp⟩ : ∃ p, ps[j]? = some p := ⟨_, List.getElem?_eq_getElem hlt⟩
   have hlp : l[j]? = some p := by rw [hI.post j (Nat.le_refl _), hp]
   have hks := kept_succ (k := k) hp
   repeat' (first | refine run ?_ | refine al (fun _ => ?_) | fail)
   refine WX.callV rfl rfl (isFile_ct nb k p) rfl ?_
   rintro _ _ ⟨rfl, rfl⟩
   by_cases hpk : p.f = k
   ·rw [if_pos hpk, append_nil] at hks
    simp only [ca, na]
    try refine run ?_
    refine D.as 5 (.int .i64 ((kept k ps (j + 1)).length : Int)) rfl (by rw [hks]) ?_
    refine D.rd (j + 1, l, h2) ⟨by simp only []; omega, ⟨hll, by rw [hks]; omega, by rw [hks]; exact hI.pre, fun i hi => hI.post i (by omega)⟩, hsl⟩ (by simp only []; omega)
   ·rw [if_neg hpk] at hks
    obtain ⟨y, hy⟩ : ∃ y, l[(kept k ps j).length]? = some y := ⟨_, List.getElem?_eq_getElem (by omega)⟩
    simp only [ca, na]
    try refine run ?_
    refine WX.storeE (y' := p) (vs := Enc.enc p) rfl rfl rfl hsl hy rfl rfl rfl (setAt_whole rfl) rfl (fun h3 hs3 => ?_)
    try refine run ?_
    refine D.as 5 (.int .i64 ((kept k ps (j + 1)).length : Int)) rfl (by rw [hks, length_append]; congr 1) ?_
    refine D.rd (j + 1, l.set (kept k ps j).length p, h3) ⟨by simp only []; omega, ⟨by simp [hll], by rw [hks, length_append]; simp only [length_cons, length_nil]; omega, ?_, fun i hi => ?_⟩, hs3⟩ (by simp only []; omega)
    ·rw [hks, length_append]
     simp only [length_cons, length_nil, Nat.zero_add]
     rw [take_succ_eq_append_getElem (by simp; omega), take_set_of_le (Nat.le_refl _), hI.pre]
     simp
    ·simp only [] at hi
     rw [List.getElem?_set_ne (by omega)]
     exact hI.post i (by omega)
  ·obtain rfl : j = ps.length := by omega
   have hkf : kept k ps ps.length = ps.filter (keepP k) := by unfold kept; rw [take_length]
   obtain ⟨b, cap, sp, fr, rfl, rfl, g1, g2, g3⟩ := hsl.ne (by omega)
   have hz : Enc.sz Pc = 2 := rfl
   have hpre := hI.pre
   clear hI
   generalize hK : kept k ps ps.length = K at *
   have hcs : encs l ++ sp = encs K ++ (encs (l.drop K.length) ++ sp) := by
    conv => lhs; rw [← take_append_drop K.length l, hpre, encs_append, append_assoc]
   try refine run ?_
   refine I.sl ?_
   refine WX.cutFrom (lo := K.length) rfl rfl (by omega) g1 rfl ?_
   rw [slCut_eq, if_neg (by omega)]
   simp only [Option.map_some, add_none, Nat.zero_add]
   have hel : (encs K).length = K.length * 2 := by rw [encs_len, hz]
   have hsl2 : (encs (l.drop K.length) ++ sp).length = (cap - K.length) * 2 := by
    rw [length_append, encs_len, length_drop, g2, hz]; omega
   have hcl : (encs l ++ sp).length = cap * 2 := by rw [hcs, length_append, hel, hsl2]; omega
   refine I.biN ?_
   refine WX.clearB rfl (by rw [hcl]; exact g3) (by omega) (by rw [hcl]; simp only [length_cons, length_nil]; omega) rfl ?_
   rw [hcs, show K.length * 2 = (encs K).length + 0 by rw [hel]; rfl, setAt_append_right]
   generalize hsp : setAt (encs (List.drop K.length l) ++ sp) 0 _ = sp'
   try refine run ?_
   refine D.fin1 [[(b, .cells (List.toArray (encs K ++ sp')) 155 fr)], NumBk nb k] _ rfl rfl ⟨_, rfl, .inr ⟨b, cap, sp', fr, ?_, ?_, ?_, ?_, g3⟩⟩
   ·rw [← hkf]; rfl
   ·rw [← hkf]
   ·rw [← hkf]; omega
   ·rw [← hsp, setAt_len, hsl2, ← hkf, hz]
theorem forget_ct {ps : List Pc} {lv : Value} {lh : Hp} (hs : IsSl 155 ps lv lh) (d m : Nat) (k : Int) (hl : ps.length ≤ 1099511627776) :
  Ct prog 146 [.pointer (some ⟨d, 0, none⟩), .int .i64 k] [DBk d m lv, lh] (fun r H' => ∃ lv' lh', r = .tuple #[] ∧ H' = [DBk d m lv', lh'] ∧ IsSl 155 (ps.filter (keepP k)) lv' lh') := by
 refine Ct.mk' func146 rfl rfl rfl (fun g R => ?_)
 try simp only [ca]
 simp only [na]
 repeat' (first | refine run ?_ | refine bx rfl (fun _ => ?_) | (refine WX.makeFunc (first := []) rfl rfl rfl ?_) | fail)
 rename_i nb
 refine WX.call rfl (deleteF_ct hs nb k hl) rfl ?_
 rintro r _ ⟨h', rfl, hs'⟩
 obtain ⟨p', n', c', rfl⟩ := hs'.sh
 simp only [ca, na]
 try refine run ?_
 exact D.finE [DBk d m (.slice p' n' c'), h'] _ rfl ⟨_, _, rfl, rfl, hs'⟩
theorem onF_eq {pre post : List Fl} {f f' : Fl} {k : Int} {g : FileP → FileP} (h1 : ∀ x ∈ pre, x.n ≠ k) (h2 : ∀ x ∈ post, x.n ≠ k) (hn : f.n = k) (hg : g f.file = f'.file) :
  ((pre ++ f :: post).map Fl.file).map (fun x => if x.n = k then g x else x) = (pre ++ f' :: post).map Fl.file := by
 have hid : ∀ (l : List Fl), (∀ x ∈ l, x.n ≠ k) → (l.map Fl.file).map (fun x => if x.n = k then g x else x) = l.map Fl.file := by
  intro l hl
  rw [map_map]
  apply map_congr_left
  intro x hx
  have : ¬ x.file.n = k := hl x hx
  simp [this]
 rw [map_append, map_append, hid pre h1, map_cons, map_cons, hid post h2, map_append, map_cons]
 have : f.file.n = k := hn
 rw [if_pos this, hg]
theorem filt_eq {pre post : List Fl} {f : Fl} {k : Int} (h1 : ∀ x ∈ pre, x.n ≠ k) (h2 : ∀ x ∈ post, x.n ≠ k) (hn : f.n = k) :
  ((pre ++ f :: post).map Fl.file).filter (fun x => decide (x.n ≠ k)) = (pre ++ post).map Fl.file ∧ ((pre ++ f :: post).map Fl.me).filter (fun x => decide (x.k ≠ k)) = (pre ++ post).map Fl.me := by
 have e1 : ∀ (l : List Fl), (∀ x ∈ l, x.n ≠ k) → (l.map Fl.file).filter (fun x => decide (x.n ≠ k)) = l.map Fl.file := by
  intro l hl
  rw [filter_eq_self]
  intro x hx
  obtain ⟨y, hy, rfl⟩ := mem_map.1 hx
  exact decide_eq_true (hl y hy)
 have e2 : ∀ (l : List Fl), (∀ x ∈ l, x.n ≠ k) → (l.map Fl.me).filter (fun x => decide (x.k ≠ k)) = l.map Fl.me := by
  intro l hl
  rw [filter_eq_self]
  intro x hx
  obtain ⟨y, hy, rfl⟩ := mem_map.1 hx
  exact decide_eq_true (hl y hy)
 constructor
 ·rw [map_append, filter_append, e1 pre h1, map_cons, filter_cons, if_neg (by simp [Fl.file, hn]), e1 post h2, map_append]
 ·rw [map_append, filter_append, e2 pre h1, map_cons, filter_cons, if_neg (by simp [Fl.me, hn]), e2 post h2, map_append]
theorem dsync_ct {S : DkS} {d : Nat} {h : Hp} (hd : IsDk S d h) (k : Int) (hll : S.loose.length ≤ 1099511627776) :
  Ct prog 126 [.pointer (some ⟨d, 0, none⟩), .int .i64 k] [h] (fun r H' => ∃ h', r = .int .i64 (S.errE k) ∧ H' = [h'] ∧ IsDk (S.sync k) d h') := by
 obtain ⟨m, c, lv, fs, lh, hd, rfl⟩ := hd
 cases hk : S.find k with
 | none =>
  obtain ⟨_, hv⟩ := hd.no hk
  have hE : S.errE k = 50 := by simp [DkS.errE, hk]
  have hS : S.sync k = S := by simp [DkS.sync, hk]
  rw [hE, hS]
  refine Ct.pack (pre := [DBk d m lv, MBk m fs c, lh, fhp fs]) (post := fun r H' => r = .int .i64 50 ∧ H' = [DBk d m lv, MBk m fs c, lh, fhp fs]) ?_ (by simp) (fun r H' p => ⟨[DBk d m lv ++ (MBk m fs c ++ (lh ++ fhp fs))], by rw [p.2]; simp, _, p.1, rfl, m, c, lv, fs, lh, hd, rfl⟩)
  refine Ct.mk' func126 rfl rfl rfl (fun g R => ?_)
  try simp only [ca]
  simp only [na]
  try refine run ?_
  refine WX.lookup rfl rfl rfl ?_
  rw [hv]
  try refine run ?_
  exact D.fin1 [DBk d m lv, MBk m fs c, lh, fhp fs] _ rfl rfl ⟨rfl, rfl⟩
 | some x =>
  obtain ⟨f, pre, post, rfl, rfl, hn, hok, h1, h2, hv⟩ := hd.has hk
  have hr := IsSl.rs hok
  have hE : S.errE k = 0 := by simp [DkS.errE, hk]
  obtain ⟨f', hf'⟩ : ∃ f' : Fl, f' = { f with s := f.b.length } := ⟨_, rfl⟩
  have hS : S.sync k = { fs := (pre ++ f' :: post).map Fl.file, loose := S.loose.filter (keepP k) } := by
   have : S.onF k (fun f => { f with s := f.b.length }) = (pre ++ f' :: post).map Fl.file := by
    unfold DkS.onF; rw [← hd.fs]; exact onF_eq h1 h2 hn (by rw [hf']; rfl)
   simp only [DkS.sync, hk, Option.isNone_some, Bool.false_eq_true, if_false, this]
   rfl
  have hme : (pre ++ f' :: post).map Fl.me = (pre ++ f :: post).map Fl.me := by rw [hf']; simp [Fl.me]
  have hMB : MBk m (pre ++ f' :: post) c = MBk m (pre ++ f :: post) c := by unfold MBk; rw [hme]
  rw [hE, hS]
  refine Ct.pack (pre := [DBk d m lv, MBk m (pre ++ f :: post) c, lh, fhp pre, FBk f.blk (.slice f.p f.l f.c) f.s, f.h, fhp post]) (post := fun r H' => ∃ lv' lh', r = .int .i64 0 ∧ H' = [DBk d m lv', MBk m (pre ++ f :: post) c, lh', fhp pre, FBk f.blk (.slice f.p f.l f.c) f.b.length, f.h, fhp post] ∧ IsSl 155 (S.loose.filter (keepP k)) lv' lh') ?_ (by rw [fhp_split]; simp)
   (fun r H' ⟨lv', lh', e1, e2, e3⟩ => ⟨[DBk d m lv' ++ (MBk m (pre ++ f' :: post) c ++ (lh' ++ fhp (pre ++ f' :: post)))], by rw [e2, fhp_split, hMB, hf']; simp, _, e1, rfl, m, c, lv', _, lh', ⟨by rw [hme]; exact hd.mp, fun x hx => ?_, rfl, e3⟩, rfl⟩)
  ·refine Ct.mk' func126 rfl rfl rfl (fun g R => ?_)
   try simp only [ca]
   simp only [na]
   try refine run ?_
   refine WX.lookup rfl rfl rfl ?_
   rw [hv]
   try refine run ?_
   refine WX.call rfl (forget_ct hd.sl d m k hll) rfl ?_
   rintro _ _ ⟨lv', lh', rfl, rfl, hs'⟩
   simp only [ca, na]
   try refine run ?_
   exact D.fin1 [DBk d m lv', MBk m (pre ++ f :: post) c, lh', fhp pre, FBk f.blk (.slice f.p f.l f.c) f.b.length, f.h, fhp post] _ rfl rfl ⟨_, _, rfl, rfl, hs'⟩
  ·rcases mem_append.1 hx with hx | hx
   ·exact hd.ok x (mem_append_left _ hx)
   ·rcases mem_cons.1 hx with rfl | hx
    ·rw [hf']; exact hok
    ·exact hd.ok x (mem_append_right _ (mem_cons_of_mem _ hx))
theorem dremove_ct {S : DkS} {d : Nat} {h : Hp} (hd : IsDk S d h) (k : Int) (hll : S.loose.length ≤ 1099511627776) :
  Ct prog 93 [.pointer (some ⟨d, 0, none⟩), .int .i64 k] [h] (fun r H' => ∃ h', r = .int .i64 (S.errE k) ∧ H' = [h'] ∧ IsDk (S.remove k) d h') := by
 obtain ⟨m, c, lv, fs, lh, hd, rfl⟩ := hd
 cases hk : S.find k with
 | none =>
  obtain ⟨_, hv⟩ := hd.no hk
  have hE : S.errE k = 50 := by simp [DkS.errE, hk]
  have hS : S.remove k = S := by simp [DkS.remove, hk]
  rw [hE, hS]
  refine Ct.pack (pre := [DBk d m lv, MBk m fs c, lh, fhp fs]) (post := fun r H' => r = .int .i64 50 ∧ H' = [DBk d m lv, MBk m fs c, lh, fhp fs]) ?_ (by simp) (fun r H' p => ⟨[DBk d m lv ++ (MBk m fs c ++ (lh ++ fhp fs))], by rw [p.2]; simp, _, p.1, rfl, m, c, lv, fs, lh, hd, rfl⟩)
  refine Ct.mk' func93 rfl rfl rfl (fun g R => ?_)
  try simp only [ca]
  simp only [na]
  try refine run ?_
  refine WX.lookup rfl rfl rfl ?_
  rw [hv]
  try refine run ?_
  exact D.fin1 [DBk d m lv, MBk m fs c, lh, fhp fs] _ rfl rfl ⟨rfl, rfl⟩
 | some x =>
  obtain ⟨f, pre, post, rfl, rfl, hn, hok, h1, h2, hv⟩ := hd.has hk
  have hE : S.errE k = 0 := by simp [DkS.errE, hk]
  obtain ⟨e1, e2⟩ := filt_eq h1 h2 hn
  have hS : S.remove k = { fs := (pre ++ post).map Fl.file, loose := S.loose.filter (keepP k) } := by
   simp only [DkS.remove, hk, Option.isNone_some, Bool.false_eq_true, if_false]
   rw [← hd.fs, e1]
   rfl
  rw [hE, hS]
  refine Ct.packP (pre := [DBk d m lv, MBk m (pre ++ f :: post) c, lh, fhp (pre ++ f :: post)]) (post := fun r H' => ∃ lv' lh', r = .int .i64 0 ∧ H' = [DBk d m lv', MBk m (pre ++ post) c, lh', fhp (pre ++ f :: post)] ∧ IsSl 155 (S.loose.filter (keepP k)) lv' lh') ?_ (by simp) ?_
  ·refine Ct.mk' func93 rfl rfl rfl (fun g R => ?_)
   try simp only [ca]
   simp only [na]
   try refine run ?_
   refine WX.lookup rfl rfl rfl ?_
   rw [hv]
   try refine run ?_
   refine I.biN ?_
   refine WX.mapDel rfl rfl hd.mp.ks ?_
   rw [e2]
   try refine run ?_
   refine WX.call rfl (forget_ct hd.sl d m k hll) rfl ?_
   rintro _ _ ⟨lv', lh', rfl, rfl, hs'⟩
   simp only [ca, na]
   try refine run ?_
   exact D.fin1 [DBk d m lv', MBk m (pre ++ post) c, lh', fhp (pre ++ f :: post)] _ rfl rfl ⟨_, _, rfl, rfl, hs'⟩
  ·rintro r _ ⟨lv', lh', rfl, rfl, hs'⟩
   refine ⟨[DBk d m lv' ++ (MBk m (pre ++ post) c ++ (lh' ++ fhp (pre ++ post)))], f.hp, ?_, _, rfl, rfl, m, c, lv', pre ++ post, lh', ⟨by rw [← e2]; exact hd.mp.del _, fun x hx => hd.ok x ?_, rfl, hs'⟩, rfl⟩
   ·simp only [fhp, map_append, map_cons, flatten_append, flatten_cons, flatten_nil, append_nil, cons_append, nil_append, append_assoc]
    refine List.Perm.cons _ (List.Perm.cons _ (List.Perm.append_left _ (List.Perm.append_left _ perm_append_comm)))
   ·rcases mem_append.1 hx with hx | hx
    ·exact mem_append_left _ hx
    ·exact mem_append_right _ (mem_cons_of_mem _ hx)
theorem find_mem {S : DkS} {k : Int} {x : FileP} (h : S.find k = some x) : x ∈ S.fs := mem_of_find?_eq_some h
theorem size_le_used {S : DkS} {x : FileP} (h : x ∈ S.fs) : x.b.length ≤ S.used := by
 unfold DkS.used
 have : ∀ {l : List FileP}, x ∈ l → x.b.length ≤ (l.map (·.b.length)).sum := by
  intro l hl
  induction l with
  | nil => cases hl
  | cons y r ih =>
   simp only [map_cons, sum_cons]
   rcases mem_cons.1 hl with rfl | hl
   ·omega
   ·have := ih hl; omega
 exact this h
set_option maxHeartbeats 1000000 in
theorem append_ct {S : DkS} {d : Nat} {h hx : Hp} (hd : IsDk S d h) (k : Int) {bs : List UInt8} {u : Value} (hb : Rs bs u hx) (hl : bs.length ≤ 1099511627776) (hu : S.used ≤ 1048576) (hf : S.fs.length ≤ 64) (hll : S.loose.length ≤ 1099511627776) :
  Ct prog 139 [.pointer (some ⟨d, 0, none⟩), .int .i64 k, u] [h, hx] (fun r H' => ∃ h', r = .int .i64 (S.appE k bs.length) ∧ H' = [h', hx] ∧ IsDk (S.app k bs) d h') := by
 obtain ⟨m, c, lv, fs, lh, hd, rfl⟩ := hd
 have hfl := hd.len
 have hml : (fs.map Fl.me).length = fs.length := length_map _
 have hus := (used_ct (d := d) (h := DBk d m lv ++ (MBk m fs c ++ (lh ++ fhp fs))) ⟨m, c, lv, fs, lh, hd, rfl⟩ (by omega)).pack (pre' := [DBk d m lv, MBk m fs c, lh, fhp fs]) (post' := fun r H' => r = .int .i64 (S.used : Int) ∧ H' = [DBk d m lv, MBk m fs c, lh, fhp fs]) (by simp) (fun r H' p => ⟨[DBk d m lv, MBk m fs c, lh, fhp fs], by rw [p.2]; simp, p.1, rfl⟩)
 have hsame : ∀ E, S.appE k bs.length = E → E ≠ 0 → (Ct prog 139 [.pointer (some ⟨d, 0, none⟩), .int .i64 k, u] [DBk d m lv, MBk m fs c, lh, fhp fs, hx] (fun r H' => r = .int .i64 E ∧ H' = [DBk d m lv, MBk m fs c, lh, fhp fs, hx])) →
   Ct prog 139 [.pointer (some ⟨d, 0, none⟩), .int .i64 k, u] [DBk d m lv ++ (MBk m fs c ++ (lh ++ fhp fs)), hx] (fun r H' => ∃ h', r = .int .i64 (S.appE k bs.length) ∧ H' = [h', hx] ∧ IsDk (S.app k bs) d h') := by
  intro E hE hne hc
  refine hc.pack (by simp) (fun r H' p => ⟨[DBk d m lv ++ (MBk m fs c ++ (lh ++ fhp fs)), hx], by rw [p.2]; simp, _, by rw [p.1, hE], rfl, ?_⟩)
  rw [show S.app k bs = S from if_neg (by rw [hE]; exact hne)]
  exact ⟨m, c, lv, fs, lh, hd, rfl⟩
 by_cases hb1 : k < 0
 ·refine hsame 50 (by simp [DkS.appE, hb1]) (by decide) ?_
  refine Ct.mk' func139 rfl rfl rfl (fun g R => ?_)
  try simp only [ca]
  simp only [na]
  try refine run ?_
  refine WX.lookup rfl rfl rfl ?_
  try refine run ?_
  exact D.fin1 [DBk d m lv, MBk m fs c, lh, fhp fs, hx] _ rfl rfl ⟨rfl, rfl⟩
 by_cases hb2 : 1099511627776 < k
 ·refine hsame 50 (by simp [DkS.appE, hb2]) (by decide) ?_
  refine Ct.mk' func139 rfl rfl rfl (fun g R => ?_)
  try simp only [ca]
  simp only [na]
  try refine run ?_
  refine WX.lookup rfl rfl rfl ?_
  try refine run ?_
  exact D.fin1 [DBk d m lv, MBk m fs c, lh, fhp fs, hx] _ rfl rfl ⟨rfl, rfl⟩
 have hb3 : ¬ (k < 0 ∨ 1099511627776 < k) := by omega
 cases hk : S.find k with
 | none =>
  obtain ⟨hmf, hv⟩ := hd.no hk
  by_cases h64 : 64 ≤ S.fs.length
  ·refine hsame 51 (by simp [DkS.appE, hb3, hk, h64]) (by decide) ?_
   refine Ct.mk' func139 rfl rfl rfl (fun g R => ?_)
   try simp only [ca]
   simp only [na]
   try refine run ?_
   refine WX.lookup rfl rfl rfl ?_
   rw [hv]
   repeat' (first | refine run ?_ | refine WX.lenMap rfl rfl ?_ | fail)
   exact D.fin1 [DBk d m lv, MBk m fs c, lh, fhp fs, hx] _ rfl rfl ⟨rfl, rfl⟩
  by_cases hfull : 1048576 < S.used + bs.length
  ·refine hsame 51 (by simp [DkS.appE, hb3, hfull]) (by decide) ?_
   refine Ct.mk' func139 rfl rfl rfl (fun g R => ?_)
   try simp only [ca]
   simp only [na]
   try refine run ?_
   refine WX.lookup rfl rfl rfl ?_
   rw [hv]
   repeat' (first | refine run ?_ | refine WX.lenMap rfl rfl ?_ | fail)
   refine WX.callQ rfl hus rfl ?_
   try refine run ?_
   exact D.fin1 [DBk d m lv, MBk m fs c, lh, fhp fs, hx] _ rfl rfl ⟨rfl, rfl⟩
  have hE : S.appE k bs.length = 0 := by simp only [DkS.appE, hk]; rw [if_neg hb3, if_neg (by simp; omega)]
  have hS : S.app k bs = { fs := S.fs ++ [{ n := k, b := bs, s := 0 }], loose := S.loose ++ [⟨k, bs.length⟩] } := by simp [DkS.app, hE, hk]
  rw [hE, hS]
  refine Ct.pack (pre := [DBk d m lv, MBk m fs c, lh, fhp fs, hx]) (post := fun r H' => ∃ fb p' l' c' h' lv' lh', r = .int .i64 0 ∧ H' = [DBk d m lv', [(m, mob (fs.map Fl.me ++ [⟨k, .pointer (some ⟨fb, 0, none⟩), c⟩]) (c + 1))], lh', fhp fs, FBk fb (.slice p' l' c') 0, h', hx] ∧
    IsSl 5 bs (.slice p' l' c') h' ∧ IsSl 155 (S.loose ++ [⟨k, bs.length⟩]) lv' lh') ?_ (by simp)
   (fun r H' ⟨fb, p', l', c', h', lv', lh', e1, e2, e3, e4⟩ => ⟨[DBk d m lv' ++ (MBk m (fs ++ [⟨k, bs, 0, fb, p', l', c', h', c⟩]) (c + 1) ++ (lh' ++ fhp (fs ++ [⟨k, bs, 0, fb, p', l', c', h', c⟩]))), hx], by rw [e2]; simp [fhp, Fl.hp, Fl.me], _, e1, rfl, m, c + 1, lv', _, lh',
    ⟨by rw [map_append]; exact hd.mp.put hmf _, fun x hx => ?_, by rw [map_append, hd.fs]; rfl, e4⟩, rfl⟩)
  ·refine Ct.mk' func139 rfl rfl rfl (fun g R => ?_)
   try simp only [ca]
   simp only [na]
   try refine run ?_
   refine WX.lookup rfl rfl rfl ?_
   rw [hv]
   repeat' (first | refine run ?_ | refine WX.lenMap rfl rfl ?_ | fail)
   refine WX.callQ rfl hus rfl ?_
   repeat' (first | refine run ?_ | refine bx rfl (fun _ => ?_) | fail)
   rename_i fb
   refine WX.mapPut rfl rfl rfl hmf ?_
   try refine run ?_
   refine WX.nilH ?_
   refine WX.app (xs := []) rfl rfl (IsSl.nil _) hb rfl rfl (by decide) (by simp only [length_nil]; omega) rfl (fun v1 h1 hs1 => ?_)
   rw [nil_append] at hs1
   obtain ⟨p1, n1, c1, rfl⟩ := hs1.sh
   try refine run ?_
   refine I.bs ?_
   refine WX.lit (ys := [(⟨k, bs.length⟩ : Pc)]) rfl rfl rfl rfl rfl rfl (by decide) rfl (fun v2 h2 hs2 => ?_)
   refine WX.app rfl rfl hd.sl hs2.rs rfl rfl (by decide) (by simp only [length_cons, length_nil]; omega) rfl (fun v3 h3 hs3 => ?_)
   obtain ⟨p3, n3, c3, rfl⟩ := hs3.sh
   try refine run ?_
   exact D.fin1 [DBk d m (.slice p3 n3 c3), [(m, mob (fs.map Fl.me ++ [⟨k, .pointer (some ⟨fb, 0, none⟩), c⟩]) (c + 1))], h3, fhp fs, FBk fb (.slice p1 n1 c1) 0, h1, hx] _ rfl rfl ⟨fb, p1, n1, c1, h1, _, h3, rfl, rfl, hs1, hs3⟩
  ·rcases mem_append.1 hx with hx | hx
   ·exact hd.ok x hx
   ·rw [mem_singleton] at hx; subst hx; exact e3
 | some x =>
  obtain ⟨f, pre, post, rfl, rfl, hn, hok, h1, h2, hv⟩ := hd.has hk
  have hr := IsSl.rs hok
  have hsz : f.b.length ≤ S.used := size_le_used (find_mem hk)
  by_cases hfull : 1048576 < S.used + bs.length
  ·refine hsame 51 (by simp [DkS.appE, hb3, hfull]) (by decide) ?_
   refine Ct.mk' func139 rfl rfl rfl (fun g R => ?_)
   try simp only [ca]
   simp only [na]
   try refine run ?_
   refine WX.lookup rfl rfl rfl ?_
   rw [hv]
   try refine run ?_
   refine WX.callQ rfl hus rfl ?_
   try refine run ?_
   exact D.fin1 [DBk d m lv, MBk m (pre ++ f :: post) c, lh, fhp (pre ++ f :: post), hx] _ rfl rfl ⟨rfl, rfl⟩
  have hE : S.appE k bs.length = 0 := by simp only [DkS.appE, hk]; rw [if_neg hb3, if_neg (by simp; omega)]
  have hS' : S.app k bs = { fs := S.onF k fun f => { f with b := f.b ++ bs }, loose := S.loose ++ [⟨k, bs.length⟩] } := by simp [DkS.app, hE, hk]
  rw [hE, hS']
  refine Ct.pack (pre := [DBk d m lv, MBk m (pre ++ f :: post) c, lh, fhp (pre ++ f :: post), hx]) (post := fun r H' => ∃ p' l' c' h' lv' lh', r = .int .i64 0 ∧ H' = [DBk d m lv', MBk m (pre ++ f :: post) c, lh', fhp pre, FBk f.blk (.slice p' l' c') f.s, h', fhp post, hx] ∧
    IsSl 5 (f.b ++ bs) (.slice p' l' c') h' ∧ IsSl 155 (S.loose ++ [⟨k, bs.length⟩]) lv' lh') ?_ (by simp) ?_
  ·refine Ct.mk' func139 rfl rfl rfl (fun g R => ?_)
   try simp only [ca]
   simp only [na]
   try refine run ?_
   refine WX.lookup rfl rfl rfl ?_
   rw [hv]
   try refine run ?_
   refine WX.callQ rfl hus rfl ?_
   refine WX.flat (H' := [DBk d m lv, MBk m (pre ++ f :: post) c, lh, fhp pre, FBk f.blk (.slice f.p f.l f.c) f.s, f.h, fhp post, hx, R]) (by simp [fhp_split]) ?_
   try refine run ?_
   refine WX.app rfl rfl hok hb rfl rfl (by decide) (by omega) rfl (fun v1 h1' hs1 => ?_)
   obtain ⟨p1, n1, c1, rfl⟩ := hs1.sh
   try refine run ?_
   refine I.bs ?_
   refine WX.lit (ys := [(⟨k, bs.length⟩ : Pc)]) rfl rfl rfl rfl rfl rfl (by decide) rfl (fun v2 h2' hs2 => ?_)
   refine WX.app rfl rfl hd.sl hs2.rs rfl rfl (by decide) (by simp only [length_cons, length_nil]; omega) rfl (fun v3 h3 hs3 => ?_)
   obtain ⟨p3, n3, c3, rfl⟩ := hs3.sh
   try refine run ?_
   exact D.fin1 [DBk d m (.slice p3 n3 c3), MBk m (pre ++ f :: post) c, h3, fhp pre, FBk f.blk (.slice p1 n1 c1) f.s, h1', fhp post, hx] _ rfl rfl ⟨p1, n1, c1, h1', _, h3, rfl, rfl, hs1, hs3⟩
  ·rintro r _ ⟨p', l', c', h', lv', lh', e1, rfl, e3, e4⟩
   obtain ⟨f', hf'⟩ : ∃ f' : Fl, f' = { f with b := f.b ++ bs, p := p', l := l', c := c', h := h' } := ⟨_, rfl⟩
   have hme : (pre ++ f' :: post).map Fl.me = (pre ++ f :: post).map Fl.me := by rw [hf']; simp [Fl.me]
   have hMB : MBk m (pre ++ f' :: post) c = MBk m (pre ++ f :: post) c := by unfold MBk; rw [hme]
   have hon : S.onF k (fun f => { f with b := f.b ++ bs }) = (pre ++ f' :: post).map Fl.file := by
    unfold DkS.onF; rw [← hd.fs]; exact onF_eq h1 h2 hn (by rw [hf']; rfl)
   refine ⟨[DBk d m lv' ++ (MBk m (pre ++ f' :: post) c ++ (lh' ++ fhp (pre ++ f' :: post))), hx], by rw [fhp_split, hMB, hf']; simp, _, e1, rfl, m, c, lv', _, lh', ⟨by rw [hme]; exact hd.mp, fun x hx => ?_, hon.symm, e4⟩, rfl⟩
   rcases mem_append.1 hx with hx | hx
   ·exact hd.ok x (mem_append_left _ hx)
   ·rcases mem_cons.1 hx with rfl | hx
    ·rw [hf']; exact e3
    ·exact hd.ok x (mem_append_right _ (mem_cons_of_mem _ hx))
def DkS.trunc (S : DkS) (k : Int) (n : Nat) : DkS := { S with fs := S.onF k fun f => { f with b := f.b.take n, s := n } }
theorem trunc_ct {S : DkS} {d : Nat} {h : Hp} (hd : IsDk S d h) {k : Int} {x : FileP} (hk : S.find k = some x) (hs : x.s = x.b.length) {n : Nat} (hn : n ≤ x.b.length) (hb : x.b.length ≤ 1099511627776) (hl : S.loose = []) :
  Ct prog 91 [.pointer (some ⟨d, 0, none⟩), .int .i64 k, .int .i64 (n : Int)] [h] (fun r H' => ∃ h', r = .int .i64 0 ∧ H' = [h'] ∧ IsDk (S.trunc k n) d h') := by
 obtain ⟨m, c, lv, fs, lh, hd, rfl⟩ := hd
 obtain ⟨f, pre, post, rfl, rfl, hfn, hok, h1, h2, hv⟩ := hd.has hk
 have hs : f.s = f.b.length := hs
 have hn : n ≤ f.b.length := hn
 have hb : f.b.length ≤ 1099511627776 := hb
 have hr : Rs f.b (.slice f.p f.l f.c) f.h := IsSl.rs hok
 have hlr := hd.sl.rs
 rw [hl] at hlr
 have hll : ((([] : List Pc).length : Nat) : Int) = 0 := rfl
 have hto := IsSl.to (m := n) hok hn
 refine Ct.pack (pre := [DBk d m lv, MBk m (pre ++ f :: post) c, lh, fhp pre, FBk f.blk (.slice f.p f.l f.c) f.s, f.h, fhp post]) (post := fun r H' => r = .int .i64 0 ∧ H' = [DBk d m lv, MBk m (pre ++ f :: post) c, lh, fhp pre, FBk f.blk (.slice f.p n f.c) n, f.h, fhp post]) ?_ (by rw [fhp_split]; simp) ?_
 ·refine Ct.mk' func91 rfl rfl rfl (fun g R => ?_)
  try simp only [ca]
  simp only [na]
  try refine run ?_
  refine WX.lookup rfl rfl rfl ?_
  rw [hv]
  try refine run ?_
  refine W.quiet Tryz.mix (by kernel_rfl) ?_
  try refine run ?_
  refine W.loop (α := Nat) (fun _ => True) (fun _ => [(0, .pointer (some ⟨d, 0, none⟩)), (1, .int .i64 k), (2, .int .i64 (n : Int)), (6, .int .i64 0), (7, .pointer (some ⟨f.blk, 0, none⟩)), (9, .int .i64 (-1))]) (fun _ => [DBk d m lv, MBk m (pre ++ f :: post) c, lh, fhp pre, FBk f.blk (.slice f.p f.l f.c) f.s, f.h, fhp post, R]) (fun _ => 0) 0 trivial (by repeat (first | exact Fsub.nil | refine Fsub.cons rfl ?_)) (Hsub.of_picks inferInstance) ?_
  intro _ _
  try refine run ?_
  have hcl : ∀ (g : World) w, Cf g (fun v => [FBk f.blk v f.s]) w → w.cell? ⟨f.blk, 0 + 1, none⟩ = some (.int .i64 (f.s : Int)) := fun g w hw => by
   obtain ⟨v, h⟩ := hw
   have h1 := h.2.2 f.blk _ (mem_singleton.2 rfl)
   rw [cell_bk h1]; rfl
  refine W.mixC [true, true, true, true, true, false, true, true, true, true, true, true, true, true, true, true, false, true, true] (Cf g (fun v => [FBk f.blk v f.s])) (fun w h => Cf.of (.slice f.p f.l f.c) h) Tryz.mix (by kernel_rfl) ?_
  rename_i g _ _
  repeat' (first | refine run ?_ | refine WN.load rfl (hcl g) rfl ?_ | refine WN.nil ?_ | refine WN.un0 (fun _ h => Cf.amb h) ?_ | refine WN.back0 ?_ | refine WN.an ?_ | refine WN.back (fun w h => Cf.of (.slice f.p f.l f.c) h) ?_ | refine WN.back (fun w h => Cf.of (slTo (.slice f.p f.l f.c) n) h) ?_ | fail)
  have hmn : (if (n : Int) < (f.s : Int) then (n : Int) else (f.s : Int)) = (n : Int) := by split <;> omega
  rw [hmn, show slTo (.slice f.p f.l f.c) n = .slice f.p n f.c from rfl]
  exact D.fin1 [DBk d m lv, MBk m (pre ++ f :: post) c, lh, fhp pre, FBk f.blk (.slice f.p n f.c) n, f.h, fhp post] _ rfl rfl ⟨rfl, rfl⟩
 ·rintro r _ ⟨rfl, rfl⟩
  obtain ⟨f', hf'⟩ : ∃ f' : Fl, f' = { f with b := f.b.take n, s := n, l := n } := ⟨_, rfl⟩
  have hme : (pre ++ f' :: post).map Fl.me = (pre ++ f :: post).map Fl.me := by rw [hf']; simp [Fl.me]
  have hMB : MBk m (pre ++ f' :: post) c = MBk m (pre ++ f :: post) c := by unfold MBk; rw [hme]
  have hon : S.onF k (fun f => { f with b := f.b.take n, s := n }) = (pre ++ f' :: post).map Fl.file := by
   unfold DkS.onF; rw [← hd.fs]; exact onF_eq h1 h2 hfn (by rw [hf']; rfl)
  refine ⟨[DBk d m lv ++ (MBk m (pre ++ f' :: post) c ++ (lh ++ fhp (pre ++ f' :: post)))], by rw [fhp_split, hMB, hf']; simp, _, rfl, rfl, m, c, lv, _, lh, ⟨by rw [hme]; exact hd.mp, fun x hx => ?_, hon.symm, hd.sl⟩, rfl⟩
  rcases mem_append.1 hx with hx | hx
  ·exact hd.ok x (mem_append_left _ hx)
  ·rcases mem_cons.1 hx with rfl | hx
   ·rw [hf']; exact hto
   ·exact hd.ok x (mem_append_right _ (mem_cons_of_mem _ hx))
end Go.Proofs.YtejfahjgfedliaaGreat

namespace Go.Proofs.YtejfahjgfedliaaGreat
open Go Go.Sl List
def crQ (keep : Int) (p : Pc) : Int := if (if p.n < keep then p.n else keep) > 0 then (if p.n < keep then p.n else keep) else 0
theorem crQ_le {keep : Int} {p : Pc} (h : 0 ≤ p.n) : 0 ≤ crQ keep p ∧ crQ keep p ≤ p.n ∧ (crQ keep p = 0 ∨ crQ keep p ≤ keep) := by
 unfold crQ
 by_cases h1 : p.n < keep
 ·simp only [h1, if_true]; split <;> omega
 ·simp only [h1, if_false]; split <;> omega
def crStep (s : List FileP × Int × Int) (p : Pc) : List FileP × Int × Int :=
 (s.1.map fun f => if f.n = p.f then { f with s := f.s + (crQ s.2.1 p).toNat } else f, s.2.1 - crQ s.2.1 p, s.2.2 + (p.n - crQ s.2.1 p))
namespace DkS
def crF (S : DkS) (keep : Int) (ps : List Pc) : List FileP × Int × Int := ps.foldl crStep (S.fs, keep, 0)
def crash (S : DkS) (keep : Int) : DkS := { fs := (S.crF keep S.loose).1.map fun f => { f with b := f.b.take f.s }, loose := [] }
def lost (S : DkS) (keep : Int) : Int := (S.crF keep S.loose).2.2
theorem crF_succ (S : DkS) (keep : Int) {j : Nat} {p : Pc} (h : S.loose[j]? = some p) : S.crF keep (S.loose.take (j + 1)) = crStep (S.crF keep (S.loose.take j)) p := by
 obtain ⟨h1, h2⟩ := List.getElem?_eq_some_iff.1 h
 unfold crF
 rw [take_succ_eq_append_getElem h1, h2, foldl_append]
 rfl
end DkS
def pn (k : Int) (ps : List Pc) : Int := ((ps.filter fun p => decide (p.f = k)).map (·.n)).sum
def WfI (fs : List FileP) (ps : List Pc) : Prop := (∀ p ∈ ps, 0 ≤ p.n ∧ ∃ f ∈ fs, f.n = p.f) ∧ ∀ f ∈ fs, (f.s : Int) + pn f.n ps ≤ f.b.length
theorem pn_nonneg {k : Int} {ps : List Pc} (h : ∀ p ∈ ps, 0 ≤ p.n) : 0 ≤ pn k ps := by
 unfold pn
 induction ps with
 | nil => simp
 | cons p r ih =>
  have h1 := h p (mem_cons_self ..)
  have h2 := ih fun q hq => h q (mem_cons_of_mem _ hq)
  rw [filter_cons]
  split
  ·simp only [map_cons, sum_cons]; omega
  ·exact h2
theorem pn_cons {k : Int} {p : Pc} {ps : List Pc} : pn k (p :: ps) = (if p.f = k then p.n else 0) + pn k ps := by
 unfold pn
 rw [filter_cons]
 by_cases h : p.f = k
 ·simp [h]
 ·simp [h]
theorem WfI.step {fs : List FileP} {keep lost : Int} {p : Pc} {ps : List Pc} (h : WfI fs (p :: ps)) : WfI (crStep (fs, keep, lost) p).1 ps := by
 obtain ⟨h1, h2⟩ := h
 refine ⟨fun q hq => ?_, fun f hf => ?_⟩
 ·obtain ⟨h3, f, hf, hn⟩ := h1 q (mem_cons_of_mem _ hq)
  refine ⟨h3, _, mem_map.2 ⟨f, hf, rfl⟩, ?_⟩
  split <;> exact hn
 ·obtain ⟨f0, hf0, rfl⟩ := mem_map.1 hf
  have h3 := h2 f0 hf0
  rw [pn_cons] at h3
  have h4 := crQ_le (keep := keep) (h1 p (mem_cons_self ..)).1
  by_cases hp : f0.n = p.f
  ·rw [if_pos hp]
   rw [if_pos hp.symm] at h3
   simp only []
   omega
  ·rw [if_neg hp]
   rw [if_neg (fun e => hp e.symm)] at h3
   omega
theorem find_of_mem {S : DkS} {c : Nat} {lv : Value} {fs : List Fl} {lh : Hp} (hd : Dk3 S c lv fs lh) {k : Int} (h : ∃ f ∈ S.fs, f.n = k) : ∃ x, S.find k = some x := by
 obtain ⟨f, hf, hn⟩ := h
 cases hk : S.find k with
 | some x => exact ⟨x, rfl⟩
 | none =>
  unfold DkS.find at hk
  have := List.find?_eq_none.1 hk f hf
  simp [hn] at this
def Fl.cut (f : Fl) : Fl := { f with b := f.b.take f.s, l := f.s }
def curF (vis : List Fl) (fs : List Fl) : List Fl := fs.map fun f => if f.n ∈ vis.map (·.n) then f.cut else f
theorem curF_nil (fs : List Fl) : curF [] fs = fs := by
 unfold curF
 simp
theorem curF_all {vis fs : List Fl} (h : ∀ f ∈ fs, f ∈ vis) : curF vis fs = fs.map Fl.cut := by
 unfold curF
 apply map_congr_left
 intro f hf
 rw [if_pos (mem_map.2 ⟨f, h f hf, rfl⟩)]
theorem curF_step {vis pre post : List Fl} {f : Fl} (h1 : ∀ x ∈ pre, x.n ≠ f.n) (h2 : ∀ x ∈ post, x.n ≠ f.n) (hv : f.n ∉ vis.map (·.n)) :
  curF vis (pre ++ f :: post) = curF vis pre ++ f :: curF vis post ∧ curF (vis ++ [f]) (pre ++ f :: post) = curF vis pre ++ f.cut :: curF vis post := by
 have he : ∀ l : List Fl, (∀ x ∈ l, x.n ≠ f.n) → curF (vis ++ [f]) l = curF vis l := by
  intro l hl
  unfold curF
  apply map_congr_left
  intro x hx
  have := hl x hx
  simp [this]
 constructor
 ·unfold curF
  rw [map_append, map_cons, if_neg hv]
 ·rw [← he pre h1, ← he post h2]
  unfold curF
  rw [map_append, map_cons, if_pos (by simp)]
end Go.Proofs.YtejfahjgfedliaaGreat

namespace Go.Proofs.YtejfahjgfedliaaGreat
open Go Go.Sl Go.Proofs.Tryz List
theorem mp_ne {fs pre post : List Fl} {f : Fl} {c : Nat} (h : MpOk (fs.map Fl.me) c) (e : fs = pre ++ f :: post) : (∀ x ∈ pre, x.n ≠ f.n) ∧ (∀ x ∈ post, x.n ≠ f.n) := by
 have hks := h.ks
 rw [e] at hks
 simp only [map_append, map_cons] at hks
 rw [nodup_append] at hks
 obtain ⟨_, h2, h3⟩ := hks
 rw [nodup_cons] at h2
 exact ⟨fun x hx he => h3 _ (mem_map.2 ⟨x.me, mem_map.2 ⟨x, hx, rfl⟩, rfl⟩) _ (mem_cons_self ..) he, fun x hx he => h2.1 (mem_map.2 ⟨x.me, mem_map.2 ⟨x, hx, rfl⟩, he⟩)⟩
theorem Vis.nn {fs vis : List Fl} {f : Fl} {c : Nat} (h : Vis fs vis) (hm : MpOk (fs.map Fl.me) c) (hf : f ∈ fs) (hv : f.me ∉ vis.map Fl.me) : f.n ∉ vis.map (·.n) := by
 intro hc
 obtain ⟨x, hx, hn⟩ := mem_map.1 hc
 obtain ⟨rest, hp⟩ := h
 have hxf : x ∈ fs := hp.mem_iff.1 (mem_append_left _ hx)
 obtain ⟨pre, post, e⟩ := append_of_mem hf
 obtain ⟨h1, h2⟩ := mp_ne hm e
 rw [e] at hxf
 rcases mem_append.1 hxf with hxf | hxf
 ·exact h1 x hxf hn
 ·rcases mem_cons.1 hxf with rfl | hxf
  ·exact hv (mem_map.2 ⟨x, hx, rfl⟩)
  ·exact h2 x hxf hn
set_option maxHeartbeats 1000000 in
theorem crash_ct {S : DkS} {d : Nat} {h : Hp} (hd : IsDk S d h) {keep : Int} (hk1 : -9223372036854775808 ≤ keep) (hk2 : keep ≤ 9223372036854775807) (hw : WfI S.fs S.loose) (hu : S.used ≤ 1099511627776) (hll : S.loose.length ≤ 1099511627776) (hln : (S.loose.map (·.n)).sum ≤ 1099511627776) :
  Ct prog 64 [.pointer (some ⟨d, 0, none⟩), .int .i64 keep] [h] (fun r H' => ∃ h', r = .int .i64 (S.lost keep) ∧ H' = [h'] ∧ IsDk (S.crash keep) d h') := by
 obtain ⟨m, c, lv, fs, lh, hd, rfl⟩ := hd
 have hr := hd.sl.rs
 refine Ct.pack (pre := [DBk d m lv, MBk m fs c, lh, fhp fs]) (post := fun r H' => ∃ fs1 : List Fl, r = .int .i64 (S.lost keep) ∧ H' = [DBk d m (.slice none 0 0), MBk m fs c, fhp (fs1.map Fl.cut)] ∧ fs1.map Fl.file = (S.crF keep S.loose).1 ∧ fs1.map Fl.me = fs.map Fl.me ∧ (∀ f ∈ fs1, f.cut.ok)) ?_ (by simp) ?_
 ·refine Ct.mk' func64 rfl rfl rfl (fun g R => ?_)
  try simp only [ca]
  simp only [na]
  try refine run ?_
  refine W.loop (α := Nat × List Fl) (fun x => x.1 ≤ S.loose.length ∧ Dk3 { S with fs := (S.crF keep (S.loose.take x.1)).1 } c lv x.2 lh ∧ x.2.map Fl.me = fs.map Fl.me ∧ WfI (S.crF keep (S.loose.take x.1)).1 (S.loose.drop x.1) ∧
    (∀ f ∈ x.2, f.b.length ≤ 1099511627776) ∧ 0 ≤ (S.crF keep (S.loose.take x.1)).2.2 ∧ (S.crF keep (S.loose.take x.1)).2.2 + ((S.loose.drop x.1).map (·.n)).sum ≤ 1099511627776 ∧ -9223372036854775808 ≤ (S.crF keep (S.loose.take x.1)).2.1 ∧ (S.crF keep (S.loose.take x.1)).2.1 ≤ 9223372036854775807)
   (fun x => [(0, .pointer (some ⟨d, 0, none⟩)), (1, .int .i64 (S.crF keep (S.loose.take x.1)).2.1), (4, .int .i64 0), (5, .int .i64 (S.crF keep (S.loose.take x.1)).2.2), (14, lv), (15, .int .i64 (S.loose.length : Int)), (16, .int .i64 (x.1 : Int))]) (fun x => [DBk d m lv, MBk m fs c, lh, fhp x.2, R]) (fun x => S.loose.length - x.1)
   (0, fs) ⟨Nat.zero_le _, hd, rfl, hw, fun f hf => ?_, by simp [DkS.crF], by simpa [DkS.crF] using hln, hk1, hk2⟩ (by repeat (first | exact Fsub.nil | refine Fsub.cons rfl ?_)) (Hsub.of_picks inferInstance) ?_
  ·have : f.file ∈ S.fs := by rw [← hd.fs]; exact mem_map.2 ⟨f, hf, rfl⟩
   have := size_le_used this
   have e : f.file.b = f.b := rfl
   rw [e] at this
   omega
  rintro ⟨j, fs1⟩ ⟨hj, hd1, hme, hw1, hb1, hl0, hl1, hq0, hq1⟩
  simp only [] at hj hd1 hme hw1 hb1 hl0 hl1 hq0 hq1 ⊢
  by_cases hlt : j < S.loose.length
  ·obtain ⟨p, hp⟩ : ∃ p, S.loose[j]? = some p := ⟨_, List.getElem?_eq_getElem hlt⟩
   have hs := S.crF_succ keep hp
   obtain ⟨h1, h2⟩ := List.getElem?_eq_some_iff.1 hp
   have hdr : S.loose.drop j = p :: S.loose.drop (j + 1) := by rw [drop_eq_getElem_cons h1, h2]
   rw [hdr] at hw1 hl1
   generalize hcr : S.crF keep (S.loose.take j) = s at *
   obtain ⟨F, K, Lo⟩ := s
   simp only [] at hl0 hl1 hq0 hq1 hw1 hd1 ⊢
   obtain ⟨hpn, hpf⟩ := hw1.1 p (mem_cons_self ..)
   have hQ := crQ_le (keep := K) hpn
   obtain ⟨x, hx⟩ := find_of_mem hd1 hpf
   obtain ⟨f, pre, post, rfl, rfl, hfn, hok, hp1, hp2, hv⟩ := hd1.has hx
   rw [hme] at hv
   have hfm : f.file ∈ F := find_mem hx
   have hfs := hw1.2 _ hfm
   rw [pn_cons, if_pos (show p.f = f.file.n from hfn.symm)] at hfs
   have hfp : 0 ≤ pn f.file.n (S.loose.drop (j + 1)) := pn_nonneg fun q hq => (hw1.1 q (mem_cons_of_mem _ hq)).1
   have hfs : (f.s : Int) + (p.n + pn f.file.n (S.loose.drop (j + 1))) ≤ f.b.length := hfs
   have hfl := hb1 f (by simp)
   obtain ⟨q, hq⟩ : ∃ q, q = crQ K p := ⟨_, rfl⟩
   have hqd : (if (if p.n < K then p.n else K) > 0 then (if p.n < K then p.n else K) else 0) = q := hq.symm
   have hps : 0 ≤ ((S.loose.drop (j + 1)).map (·.n)).sum := by
    have : ∀ l : List Pc, (∀ p ∈ l, 0 ≤ p.n) → 0 ≤ (l.map (·.n)).sum := by
     intro l hl
     induction l with
     | nil => simp
     | cons y r ih => simp only [map_cons, sum_cons]; have := hl y (mem_cons_self ..); have := ih fun z hz => hl z (mem_cons_of_mem _ hz); omega
    exact this _ fun q hq => (hw1.1 q (mem_cons_of_mem _ hq)).1
   rw [map_cons, sum_cons] at hl1
   rw [← hq] at hQ
   repeat' (first | refine run ?_ | refine al (fun _ => ?_) | fail)
   rename_i b7
   rw [hqd]
   refine W.flat (H' := [[(b7, .cells (List.toArray (Enc.enc p)) 155 (0, 0))], DBk d m lv, MBk m fs c, lh, fhp pre, FBk f.blk (.slice f.p f.l f.c) f.s, f.h, fhp post, R]) (by simp [fhp_split]) ?_
   refine W.mix (List.replicate 12 true) [[(b7, .cells (List.toArray (Enc.enc p)) 155 (0, 0))], DBk d m lv, MBk m fs c, FBk f.blk (.slice f.p f.l f.c) f.s] Tryz.mix (by kernel_rfl) ?_
   try refine run ?_
   refine WX.lookup rfl rfl rfl ?_
   rw [hv]
   try refine run ?_
   rw [show (f.s : Int) + q = ((f.s + q.toNat : Nat) : Int) from by omega]
   refine D.as 1 (.int .i64 (S.crF keep (S.loose.take (j + 1))).2.1) rfl (by rw [hs, hq]; rfl) ?_
   refine D.as 5 (.int .i64 (S.crF keep (S.loose.take (j + 1))).2.2) rfl (by rw [hs, hq]; rfl) ?_
   obtain ⟨f', hf'⟩ : ∃ f' : Fl, f' = { f with s := f.s + q.toNat } := ⟨_, rfl⟩
   have hme' : (pre ++ f' :: post).map Fl.me = (pre ++ f :: post).map Fl.me := by rw [hf']; simp [Fl.me]
   have hon : (crStep (F, K, Lo) p).1 = (pre ++ f' :: post).map Fl.file := by
    unfold crStep
    simp only []
    rw [← hq, ← show (pre ++ f :: post).map Fl.file = F from hd1.fs]
    exact onF_eq hp1 hp2 hfn (by rw [hf']; rfl)
   refine D.flat (H' := [[(b7, .cells (List.toArray (Enc.enc p)) 155 (0, 0))], DBk d m lv, MBk m fs c, lh, fhp (pre ++ f' :: post), R]) (by rw [fhp_split, hf']; simp only [flatten_cons, append_assoc, cons_append, nil_append]) ?_
   refine D.rd (j + 1, pre ++ f' :: post) ⟨by omega, ⟨by rw [hme']; exact hd1.mp, fun x hx => ?_, by rw [hs, hon], hd1.sl⟩, by rw [hme']; exact hme, by rw [hs]; exact hw1.step, fun x hx => ?_, ?_, ?_, ?_, ?_⟩ (by simp only []; omega)
   ·rcases mem_append.1 hx with hx | hx
    ·exact hd1.ok x (mem_append_left _ hx)
    ·rcases mem_cons.1 hx with rfl | hx
     ·rw [hf']; exact hok
     ·exact hd1.ok x (mem_append_right _ (mem_cons_of_mem _ hx))
   ·rcases mem_append.1 hx with hx | hx
    ·exact hb1 x (mem_append_left _ hx)
    ·rcases mem_cons.1 hx with rfl | hx
     ·rw [hf']; exact hfl
     ·exact hb1 x (mem_append_right _ (mem_cons_of_mem _ hx))
   all_goals (rw [hs]; simp only [crStep]; rw [← hq]; omega)
  ·obtain rfl : j = S.loose.length := by omega
   have hMB : MBk m fs c = MBk m fs1 c := by unfold MBk; rw [hme]
   rw [take_length] at hd1 hw1 hl0 hl1 ⊢
   rw [drop_length] at hw1
   rw [hMB]
   have hsb : ∀ f ∈ fs1, f.s ≤ f.b.length := by
    intro f hf
    have hm : f.file ∈ (S.crF keep S.loose).1 := by rw [← show fs1.map Fl.file = (S.crF keep S.loose).1 from hd1.fs]; exact mem_map.2 ⟨f, hf, rfl⟩
    have := hw1.2 _ hm
    have e : pn f.file.n [] = 0 := rfl
    rw [e] at this
    have h3 : (f.s : Int) + 0 ≤ f.b.length := this
    omega
   try refine run ?_
   refine WX.range rfl rfl (fun r => ?_)
   try refine run ?_
   refine W.loop (α := List Fl) (fun vis => Vis fs1 vis) (fun vis => [(0, .pointer (some ⟨d, 0, none⟩)), (4, .int .i64 0), (5, .int .i64 (S.crF keep S.loose).2.2), (53, .pointer (some ⟨r, 0, none⟩))]) (fun vis => [[(r, itob m c (vis.map Fl.me))], DBk d m lv, MBk m fs1 c, fhp (curF vis fs1), R]) (fun vis => fs1.length - vis.length) [] (Vis.start fs1) (by repeat (first | exact Fsub.nil | refine Fsub.cons rfl ?_)) (by rw [curF_nil]; show Hsub _ [[(r, itob m c [])], DBk d m lv, MBk m fs1 c, fhp fs1, R]; exact (Hsub.of_picks inferInstance)) ?_
   intro vis hv
   try refine run ?_
   refine WX.next rfl hd1.mp hv.mem rfl (fun ha => ?_) (fun z hz hzv => ?_)
   ·have hp := hv.done hd1.mp ha
    try refine run ?_
    rw [curF_all fun f hf => hp.mem_iff.2 hf]
    exact D.fin1 [DBk d m (.slice none 0 0), MBk m fs1 c, fhp (fs1.map Fl.cut)] _ rfl rfl ⟨fs1, rfl, rfl, hd1.fs, hme, fun f hf => IsSl.to (hd1.ok f hf) (hsb f hf)⟩
   ·obtain ⟨f, hf, rfl⟩ := mem_map.1 hz
    obtain ⟨hv2, hlt⟩ := hv.step hf hzv
    have hnv := hv.nn hd1.mp hf hzv
    obtain ⟨pre, post, hfe⟩ := append_of_mem hf
    obtain ⟨hp1, hp2⟩ := mp_ne hd1.mp hfe
    obtain ⟨hc1, hc2⟩ := curF_step hp1 hp2 hnv
    have hfh : fhp (curF vis fs1) = fhp (curF vis pre) ++ (FBk f.blk (.slice f.p f.l f.c) f.s ++ (f.h ++ fhp (curF vis post))) := by rw [hfe, hc1, fhp_split]
    have hfh2 : fhp (curF (vis ++ [f]) fs1) = fhp (curF vis pre) ++ (FBk f.blk (.slice f.p f.s f.c) f.s ++ (f.h ++ fhp (curF vis post))) := by rw [hfe, hc2, fhp_split]; rfl
    have hrf : Rs f.b (.slice f.p f.l f.c) f.h := (hd1.ok f hf).rs
    have hsf := hsb f hf
    refine WX.flat (H' := [[(r, itob m c (vis.map Fl.me ++ [f.me]))], DBk d m lv, MBk m fs1 c, fhp (curF vis pre), FBk f.blk (.slice f.p f.l f.c) f.s, f.h, fhp (curF vis post), R]) (by simp [hfh]) ?_
    try refine run ?_
    refine WX.entry (vis := vis.map Fl.me) (z := f.me) rfl hd1.mp (mem_map.2 ⟨f, hf, rfl⟩) rfl ?_
    try refine run ?_
    refine W.mix (List.replicate 10 true) [FBk f.blk (.slice f.p f.l f.c) f.s] Tryz.mix (by kernel_rfl) ?_
    try refine run ?_
    rw [show slTo (.slice f.p f.l f.c) f.s = .slice f.p f.s f.c from rfl]
    refine D.flat (H' := [[(r, itob m c ((vis ++ [f]).map Fl.me))], DBk d m lv, MBk m fs1 c, fhp (curF (vis ++ [f]) fs1), R]) (by simp [hfh2]) ?_
    exact D.rd (vis ++ [f]) hv2 (by simp only [length_append, length_cons, length_nil]; omega)
 ·rintro r _ ⟨fs1, e1, rfl, e2, e3, e4⟩
  have hme : (fs1.map Fl.cut).map Fl.me = fs.map Fl.me := by rw [← e3, map_map]; rfl
  have hMB : MBk m (fs1.map Fl.cut) c = MBk m fs c := by unfold MBk; rw [hme]
  refine ⟨[DBk d m (.slice none 0 0) ++ (MBk m (fs1.map Fl.cut) c ++ ([] ++ fhp (fs1.map Fl.cut)))], by rw [hMB]; simp, _, e1, rfl, m, c, _, fs1.map Fl.cut, [], ⟨by rw [hme]; exact hd.mp, fun x hx => ?_, ?_, IsSl.nil _⟩, rfl⟩
  ·obtain ⟨f, hf, rfl⟩ := mem_map.1 hx
   exact e4 f hf
  ·unfold DkS.crash
   simp only []
   rw [← e2, map_map, map_map]
   rfl
end Go.Proofs.YtejfahjgfedliaaGreat

namespace Go.Sl
open Go
section
variable {g : World} {P : Program} {ops : Array Oper} {Q : Exit → Act → World → Prop} {n : Nat} {rest : List Oper} {L : Fm} {H : HH} {q : Bool}
variable {d : Nat} {ty : TypeId} {pos : String} {af : Array Edge} {x y : Operand} {t t' a b : Nat}
theorem WX.xor32 (hx : ev L x = some (.int .u32 (a : Int))) (hy : ev L y = some (.int .u32 (b : Int))) (ha : a < 4294967296) (hb : b < 4294967296) (hd : Nat.blt d n = true)
  (k : WX q g P ops Q n rest ((d, .int .u32 ((a ^^^ b : Nat) : Int)) :: L) H) : WX q g P ops Q n (⟨some d, .binOp .xor t x y t', ty, pos, af, none⟩ :: rest) L H :=
 WX.val (fun ac hac w _ => run_bin (hac.ev hx) (hac.ev hy) run_eqGuard_int (by
  have := u32_xor_nat a b ha hb
  simp only [binOp, ne_eq, not_true_eq_false, if_false, intBits_xor, this, Sem.run_pure])) hd k
theorem WX.and32 (hx : ev L x = some (.int .u32 (a : Int))) (hy : ev L y = some (.int .u32 (b : Int))) (ha : a < 4294967296) (hb : b < 4294967296) (hd : Nat.blt d n = true)
  (k : WX q g P ops Q n rest ((d, .int .u32 ((a &&& b : Nat) : Int)) :: L) H) : WX q g P ops Q n (⟨some d, .binOp .and t x y t', ty, pos, af, none⟩ :: rest) L H :=
 WX.val (fun ac hac w _ => run_bin (hac.ev hx) (hac.ev hy) run_eqGuard_int (by
  have := u32_and_nat a b ha hb
  simp only [binOp, ne_eq, not_true_eq_false, if_false, intBits_and, this, Sem.run_pure])) hd k
theorem WX.com32 (hx : ev L x = some (.int .u32 (a : Int))) (ha : a < 4294967296) (hd : Nat.blt d n = true)
  (k : WX q g P ops Q n rest ((d, .int .u32 ((4294967295 ^^^ a : Nat) : Int)) :: L) H) : WX q g P ops Q n (⟨some d, .unOp .xor t x, ty, pos, af, none⟩ :: rest) L H :=
 WX.val (fun ac hac w _ => by
  have h1 := u32_xor_nat 4294967295 a (by decide) ha
  have h2 : (if IntKind.u32.signed then -1 else IntKind.u32.max) = ((4294967295 : Nat) : Int) := by decide
  simp only [execOp, hac.ev hx, Op.unary, h2, intBits_xor, h1, Sem.run_bind, Sem.run_pure, Result.andThen_ok]) hd k
theorem WX.shlN {kd kd' : IntKind} {m : Nat} (hx : ev L x = some (.int kd (a : Int))) (hy : ev L y = some (.int kd' (m : Int))) (hm : m ≤ kd.bits) (hw : kd.wrap ((a * 2 ^ m : Nat) : Int) = ((a * 2 ^ m : Nat) : Int)) (hd : Nat.blt d n = true)
  (k : WX q g P ops Q n rest ((d, .int kd ((a * 2 ^ m : Nat) : Int)) :: L) H) : WX q g P ops Q n (⟨some d, .binOp .shl t x y t', ty, pos, af, none⟩ :: rest) L H :=
 WX.val (fun ac hac w _ => run_bin (hac.ev hx) (hac.ev hy) (by unfold eqGuard; rfl) (by
  have h1 : Min.min ((m : Int).toNat) kd.bits = m := by rw [Int.toNat_natCast]; exact Nat.min_eq_left hm
  have h2 : ((a : Int) * 2 ^ m) = ((a * 2 ^ m : Nat) : Int) := by norm_cast
  simp only [binOp, Op.shift]
  rw [if_neg (by omega), h1, h2, hw]
  rfl)) hd k
end
section
variable {g : World} {P : Program} {Q : Exit → Act → World → Prop} {n : Nat} {L : Fm} {H : HH}
def Beh (P : Program) (rest : Code) (Q : Exit → Act → World → Prop) : Act → World → Prop := fun a w => rest.wp P (Exit.noGoto Q) a w
theorem W.scopeF {c rest : Code} (l : Nat) (hf : findLabel c l = some rest) (h : W g P c (Exit.jump l (Beh P rest Q) Q) n L H) : W g P (.scope c) Q n L H := .mk fun a w ha hw =>
 wp_scope_jumps l (Beh P rest Q) (fun _ _ => 0) hf (h a w ha hw) fun a w hJ => wp_mono hJ fun e a' w' hq => by
  cases e <;> first | exact hq.elim | exact hq
theorem W.label {l : Nat} (h : D g Q .normal n L H) : W g P (.label l) Q n L H := .mk fun a w ha hw => wp_label (h a w ha hw)
theorem W.goto {l : Nat} (h : D g Q (.goto l) n L H) : W g P (.goto l) Q n L H := .mk fun a w ha hw => wp_goto (h a w ha hw)
theorem D.jmp {l : Nat} {rest : Code} (h : W g P rest (Exit.noGoto Q) n L H) : D g (Exit.jump l (Beh P rest Q) Q) (.goto l) n L H := .mk fun a w ha hw => ⟨rfl, h a w ha hw⟩
instance {l : Nat} : Go1 (W g P (.label l) Q n L H) (D g Q .normal n L H) := ⟨W.label⟩
instance {l : Nat} : Go1 (W g P (.goto l) Q n L H) (D g Q (.goto l) n L H) := ⟨W.goto⟩
instance {l : Nat} {rest : Code} : Go1 (D g (Exit.jump l (Beh P rest Q) Q) (.goto l) n L H) (W g P rest (Exit.noGoto Q) n L H) := ⟨D.jmp⟩
instance {l : Nat} {J : Act → World → Prop} : Go1 (D g (Exit.jump l J Q) .ret n L H) (D g Q .ret n L H) := ⟨fun h => .mk fun a w ha hw => h a w ha hw⟩
instance : Go1 (D g (Exit.noGoto Q) .ret n L H) (D g Q .ret n L H) := ⟨fun h => .mk fun a w ha hw => h a w ha hw⟩
instance {l : Nat} {N : Act → World → Prop} : Go1 (D g (Exit.then N Q) (.goto l) n L H) (D g Q (.goto l) n L H) := ⟨fun h => .mk fun a w ha hw => h a w ha hw⟩
instance {l id : Nat} : Go1 (D g (Exit.inBlock id Q) (.goto l) n L H) (D g Q (.goto l) n L H) := ⟨fun h => .mk fun a w ha hw => h a w ha hw⟩
end
end Go.Sl

namespace Go.Proofs.YtejfahjgfedliaaGreat
open Go Go.Sl Go.Proofs.Tryz List
def encN (n : Nat) : List UInt8 := if n < 128 then [UInt8.ofNat n] else UInt8.ofNat (128 + n % 128) :: encN (n / 128)
theorem encN_lt {n : Nat} (h : n < 128) : encN n = [UInt8.ofNat n] := by rw [encN, if_pos h]
theorem encN_ge {n : Nat} (h : ¬ n < 128) : encN n = UInt8.ofNat (128 + n % 128) :: encN (n / 128) := by rw [encN, if_neg h]
theorem encN_len : ∀ (k : Nat) {n : Nat}, n < 128 ^ (k + 1) → (encN n).length ≤ k + 1 := by
 intro k
 induction k with
 | zero => intro n h; rw [encN_lt (by omega)]; simp
 | succ k ih =>
  intro n h
  by_cases h1 : n < 128
  ·rw [encN_lt h1]; simp
  ·rw [encN_ge h1, length_cons]
   have : n / 128 < 128 ^ (k + 1) := by
    rw [Nat.div_lt_iff_lt_mul (by decide)]
    rw [Nat.pow_succ] at h
    exact h
   have := ih this
   omega
theorem encN_pos (n : Nat) : 0 < (encN n).length := by
 by_cases h : n < 128
 ·rw [encN_lt h]; simp
 ·rw [encN_ge h]; simp
theorem encN_9 {n : Nat} (h : n ≤ 4611686018427387904) : (encN n).length ≤ 9 := encN_len 8 (by omega)
theorem byte_ofNat {n : Nat} (h : n < 256) : (UInt8.ofNat n).toNat = n := by rw [UInt8.toNat_ofNat']; exact Nat.mod_eq_of_lt h
structure Cd where
 b : List UInt8 := []
 p : Nat := 0
 rd : Bool := false
 bad : Bool := false
 arg : Bool := false
 long : Bool := false
abbrev CBr (c : Nat) (v : Value) (p : Nat) (rd bad arg long : Bool) : Hp := [(c, .cells (List.toArray [v, .int .i64 (p : Int), .bool rd, .bool bad, .bool arg, .bool long]) 182 (0, 0))]
abbrev CBk (c : Nat) (C : Cd) (v : Value) : Hp := CBr c v C.p C.rd C.bad C.arg C.long
def Cd.num (C : Cd) (n : Int) : Cd := if n < 0 ∨ 4611686018427387904 < n then { C with arg := true } else { C with b := C.b ++ encN n.toNat }
set_option maxHeartbeats 1000000 in
theorem numW_ct {C : Cd} (hr : C.rd = false) {v : Value} {h : Hp} (hs : IsSl 5 C.b v h) {vs : List Value} {T : Nat} {fr : Nat × Nat} {o : Nat} {n : Int} (hn : vs[o]? = some (.int .i64 n)) (hl : C.b.length ≤ 1099511627776) {c b : Nat} :
  Ct prog 187 [.pointer (some ⟨c, 0, none⟩), .pointer (some ⟨b, o, none⟩)] [CBk c C v, [(b, .cells vs.toArray T fr)], h] (fun _ H' => ∃ v' h', H' = [CBk c (C.num n) v', [(b, .cells vs.toArray T fr)], h'] ∧ IsSl 5 (C.num n).b v' h') := by
 obtain ⟨B, p, rd, bad, arg, long⟩ := C
 simp only [] at hr hs hl ⊢
 subst hr
 refine Ct.mk' func187 rfl rfl rfl (fun g R => ?_)
 try simp only [ca]
 simp only [na]
 by_cases h1 : n < 0
 ·rw [show (Cd.num ⟨B, p, false, bad, arg, long⟩ n) = ⟨B, p, false, bad, true, long⟩ from if_pos (.inl h1)]
  repeat' (first | refine run ?_ | refine WX.load rfl hn rfl ?_ | fail)
  exact D.fin0 [CBk c ⟨B, p, false, bad, true, long⟩ v, [(b, .cells vs.toArray T fr)], h] _ rfl ⟨_, _, rfl, hs⟩
 by_cases h2 : 4611686018427387904 < n
 ·rw [show (Cd.num ⟨B, p, false, bad, arg, long⟩ n) = ⟨B, p, false, bad, true, long⟩ from if_pos (.inr h2)]
  repeat' (first | refine run ?_ | refine WX.load rfl hn rfl ?_ | fail)
  exact D.fin0 [CBk c ⟨B, p, false, bad, true, long⟩ v, [(b, .cells vs.toArray T fr)], h] _ rfl ⟨_, _, rfl, hs⟩
 rw [show (Cd.num ⟨B, p, false, bad, arg, long⟩ n) = ⟨B ++ encN n.toNat, p, false, bad, arg, long⟩ from if_neg (by omega)]
 obtain ⟨m0, rfl⟩ : ∃ m : Nat, n = (m : Int) := ⟨n.toNat, by omega⟩
 rw [Int.toNat_natCast]
 have h9 : (encN m0).length ≤ 9 := encN_9 (by omega)
 repeat' (first | refine run ?_ | refine WX.load rfl hn rfl ?_ | fail)
 refine W.loop (α := Nat × List UInt8 × Value × Hp) (fun x => x.2.1 ++ encN x.1 = encN m0 ∧ IsSl 5 (B ++ x.2.1) x.2.2.1 x.2.2.2 ∧ x.1 ≤ m0) (fun x => [(0, .pointer (some ⟨c, 0, none⟩)), (4, .int .i64 (x.1 : Int))])
  (fun x => [CBk c ⟨B, p, false, bad, arg, long⟩ x.2.2.1, [(b, .cells vs.toArray T fr)], x.2.2.2, R]) (fun x => x.1) (m0, [], v, h) ⟨rfl, by simpa using hs, Nat.le_refl _⟩ (by repeat (first | exact Fsub.nil | refine Fsub.cons rfl ?_)) (Hsub.of_picks inferInstance) ?_
 rintro ⟨m, dn, u, hu⟩ ⟨e1, hs1, hm⟩
 simp only [] at e1 hs1 hm ⊢
 have hdl : dn.length ≤ 9 := by rw [← e1, length_append] at h9; omega
 by_cases hge : m < 128
 ·rw [encN_lt hge] at e1
  repeat' (first | refine run ?_ | refine WX.conv rfl rfl (IntWalk.u8_in _ (by omega)) ?_ | fail)
  refine WX.as 48 (.int .u8 ((UInt8.ofNat m).toNat : Int)) rfl (by rw [byte_ofNat (by omega)]) ?_
  refine WX.lit (ys := [UInt8.ofNat m]) rfl rfl rfl rfl rfl rfl (by decide) rfl (fun v1 h1 hs2 => ?_)
  refine WX.app rfl rfl hs1 hs2.rs rfl rfl (by decide) (by simp only [length_append, length_cons, length_nil]; omega) rfl (fun v2 h2 hs3 => ?_)
  rw [append_assoc, e1] at hs3
  obtain ⟨p1, n1, c1, rfl⟩ := hs3.sh
  try refine run ?_
  exact D.finE [CBk c ⟨B ++ encN m0, p, false, bad, arg, long⟩ (.slice p1 n1 c1), [(b, .cells vs.toArray T fr)], h2] _ rfl ⟨_, _, rfl, hs3⟩
 ·rw [encN_ge hge] at e1
  repeat' (first | refine run ?_ | refine WX.rem rfl rfl rfl (by decide) ?_ | fail)
  refine WX.as 35 (.int .i64 ((m % 128 : Nat) : Int)) rfl (by rw [Int.ofNat_tmod]; rfl) ?_
  repeat' (first | refine run ?_ | refine WX.conv rfl rfl (IntWalk.u8_in _ (by omega)) ?_ | fail)
  refine WX.as 37 (.int .u8 ((UInt8.ofNat (128 + m % 128)).toNat : Int)) rfl (by rw [byte_ofNat (by omega)]; congr 1) ?_
  refine WX.lit (ys := [UInt8.ofNat (128 + m % 128)]) rfl rfl rfl rfl rfl rfl (by decide) rfl (fun v1 h1 hs2 => ?_)
  refine WX.app rfl rfl hs1 hs2.rs rfl rfl (by decide) (by simp only [length_append, length_cons, length_nil]; omega) rfl (fun v2 h2 hs3 => ?_)
  rw [append_assoc] at hs3
  obtain ⟨p1, n1, c1, rfl⟩ := hs3.sh
  repeat' (first | refine run ?_ | refine WX.quo rfl rfl rfl (by decide) ?_ | fail)
  refine D.as 4 (.int .i64 ((m / 128 : Nat) : Int)) rfl (by rw [IntWalk.i64_quo _ _ (by omega)]; rfl) ?_
  exact D.rd (m / 128, dn ++ [UInt8.ofNat (128 + m % 128)], .slice p1 n1 c1, h2) ⟨by simp only []; rw [append_assoc]; exact e1, hs3, by simp only []; omega⟩ (by simp only []; omega)
theorem byte_lt (x : UInt8) : x.toNat < 256 := x.toNat_lt
def crcD (r : Nat) : Nat := if r &&& 1 = 1 then (r / 2 ^ 1) ^^^ 3988292384 else r / 2 ^ 1
def crcI : Nat → Nat → Nat
 | 0, r => r
 | k + 1, r => crcD (crcI k r)
def crcB (r : Nat) (x : UInt8) : Nat := crcI 8 (r ^^^ x.toNat)
def crcM (s : Nat) (bs : List UInt8) : Nat := 4294967295 ^^^ bs.foldl crcB (4294967295 ^^^ s)
def crcS (bs : List UInt8) : Nat := crcM 0 bs
theorem xor_lt {a b : Nat} (ha : a < 4294967296) (hb : b < 4294967296) : a ^^^ b < 4294967296 := Nat.xor_lt_two_pow (n := 32) ha hb
theorem crcD_lt {r : Nat} (h : r < 4294967296) : crcD r < 4294967296 := by
 unfold crcD
 split
 ·exact xor_lt (by omega) (by decide)
 ·omega
theorem crcI_lt {r : Nat} (h : r < 4294967296) : ∀ k, crcI k r < 4294967296
 | 0 => h
 | k + 1 => crcD_lt (crcI_lt h k)
theorem crcB_lt {r : Nat} (h : r < 4294967296) (x : UInt8) : crcB r x < 4294967296 := crcI_lt (xor_lt h (by have := byte_lt x; omega)) 8
theorem crcF_lt {bs : List UInt8} : ∀ {r : Nat}, r < 4294967296 → bs.foldl crcB r < 4294967296 := by
 induction bs with
 | nil => intro r h; exact h
 | cons x t ih => intro r h; exact ih (crcB_lt h x)
theorem crcM_lt {s : Nat} (h : s < 4294967296) (bs : List UInt8) : crcM s bs < 4294967296 := xor_lt (by decide) (crcF_lt (xor_lt (by decide) h))
theorem crcS_lt (bs : List UInt8) : crcS bs < 4294967296 := crcM_lt (by decide) bs
theorem down_ct {r : Nat} (hr : r < 4294967296) : Ct prog 242 [.int .u32 (r : Int)] [] (fun v H' => v = .int .u32 (crcD r : Int) ∧ H' = []) := by
 have h1 : r &&& 1 < 4294967296 := Nat.lt_of_le_of_lt Nat.and_le_left hr
 refine Ct.mk' func242 rfl rfl rfl (fun g R => ?_)
 try simp only [ca]
 simp only [na]
 by_cases h : r &&& 1 = 1
 ·rw [show crcD r = (r / 2 ^ 1) ^^^ 3988292384 from if_pos h]
  repeat' (first | refine run ?_ | refine WX.and32 (b := 1) rfl rfl hr (by decide) rfl ?_ | refine WX.shrN (m := 1) rfl rfl (by decide) rfl ?_ | refine WX.xor32 (b := 3988292384) rfl rfl (by omega) (by decide) rfl ?_ | fail)
  exact D.fin1 [] _ rfl rfl ⟨rfl, rfl⟩
 ·rw [show crcD r = r / 2 ^ 1 from if_neg h]
  repeat' (first | refine run ?_ | refine WX.and32 (b := 1) rfl rfl hr (by decide) rfl ?_ | refine WX.shrN (m := 1) rfl rfl (by decide) rfl ?_ | fail)
  exact D.fin1 [] _ rfl rfl ⟨rfl, rfl⟩
theorem more_ct {bs : List UInt8} {v : Value} {h : Hp} (hb : Rs bs v h) {s : Nat} (hs : s < 4294967296) (hl : bs.length ≤ 1099511627776) :
  Ct prog 223 [.int .u32 (s : Int), v] [h] (fun r H' => r = .int .u32 (crcM s bs : Int) ∧ H' = [h]) := by
 refine Ct.mk' func223 rfl rfl rfl (fun g R => ?_)
 try simp only [ca]
 simp only [na]
 repeat' (first | refine run ?_ | refine WX.com32 rfl hs rfl ?_ | fail)
 refine W.loop (α := Nat) (fun k => k ≤ bs.length) (fun k => [(5, .int .u32 (((bs.take k).foldl crcB (4294967295 ^^^ s) : Nat) : Int)), (10, v), (11, .int .i64 (bs.length : Int)), (12, .int .i64 (k : Int))]) (fun _ => [h, R]) (fun k => bs.length - k) 0 (Nat.zero_le _) (by repeat (first | exact Fsub.nil | refine Fsub.cons rfl ?_)) (Hsub.of_picks inferInstance) ?_
 intro k hk
 have hlt0 : (bs.take k).foldl crcB (4294967295 ^^^ s) < 4294967296 := crcF_lt (xor_lt (by decide) hs)
 by_cases hlt : k < bs.length
 ·obtain ⟨x, hx⟩ : ∃ x, bs[k]? = some x := ⟨_, List.getElem?_eq_getElem hlt⟩
  obtain ⟨h1, h2⟩ := List.getElem?_eq_some_iff.1 hx
  have hnx : (bs.take (k + 1)).foldl crcB (4294967295 ^^^ s) = crcI 8 ((bs.take k).foldl crcB (4294967295 ^^^ s) ^^^ x.toNat) := by
   rw [take_succ_eq_append_getElem h1, h2, foldl_append]; rfl
  have hxl := byte_lt x
  generalize hr : (bs.take k).foldl crcB (4294967295 ^^^ s) = r at *
  have hrx : r ^^^ x.toNat < 4294967296 := xor_lt hlt0 (by omega)
  repeat' (first | refine run ?_ | refine WX.conv rfl rfl (IntWalk.u32_in _ (by omega)) ?_ | refine WX.xor32 rfl rfl hlt0 (by omega) rfl ?_ | fail)
  refine W.loop (α := Nat) (fun i => i ≤ 8) (fun i => [(5, .int .u32 ((crcI i (r ^^^ x.toNat) : Nat) : Int)), (10, v), (11, .int .i64 (bs.length : Int)), (12, .int .i64 (k : Int)), (20, .int .i64 (i : Int))]) (fun _ => [h, R]) (fun i => 8 - i) 0 (Nat.zero_le _) (by repeat (first | exact Fsub.nil | refine Fsub.cons rfl ?_)) (Hsub.of_picks inferInstance) ?_
  intro i hi
  have hci := crcI_lt hrx i
  by_cases hi8 : i < 8
  ·try refine run ?_
   refine WX.callQ rfl (down_ct hci) rfl ?_
   try refine run ?_
   exact D.rd (i + 1) (by omega) (by omega)
  ·obtain rfl : i = 8 := by omega
   try refine run ?_
   refine D.as 5 (.int .u32 (((bs.take (k + 1)).foldl crcB (4294967295 ^^^ s) : Nat) : Int)) rfl (by rw [hnx]) ?_
   exact D.rd (k + 1) (by omega) (by omega)
 ·obtain rfl : k = bs.length := by omega
  rw [take_length] at hlt0 ⊢
  repeat' (first | refine run ?_ | refine WX.com32 rfl hlt0 rfl ?_ | fail)
  exact D.fin1 [h] _ rfl rfl ⟨rfl, rfl⟩
structure Sv where
 p : Option Addr
 l : Nat
 c : Nat
abbrev Sv.v (s : Sv) : Value := .slice s.p s.l s.c
instance : Enc Sv := ⟨1, fun s => [s.v], fun _ => rfl, fun _ => rfl, by decide⟩
theorem sum_ct {sv : Sv} {u : Value} {hu : Hp} (hp : Rs [sv] u hu) {bs : List UInt8} {h : Hp} (hb : Rs bs sv.v h) (hl : bs.length ≤ 1099511627776) :
  Ct prog 186 [u] [hu, h] (fun r H' => r = .int .u32 (crcS bs : Int) ∧ H' = [hu, h]) := by
 have h0 : ([sv] : List Sv)[0]? = some sv := rfl
 have hm := more_ct hb (s := 0) (by decide) hl
 refine Ct.mk' func186 rfl rfl rfl (fun g R => ?_)
 try simp only [ca]
 simp only [na]
 try refine run ?_
 refine W.loop (α := Nat) (fun k => k ≤ 1) (fun k => [(3, .int .u32 ((if k = 0 then 0 else crcS bs : Nat) : Int)), (6, u), (7, .int .i64 (([sv].length : Nat) : Int)), (8, .int .i64 (k : Int))]) (fun _ => [hu, h, R]) (fun k => 1 - k) 0 (Nat.zero_le _) (by repeat (first | exact Fsub.nil | refine Fsub.cons rfl ?_)) (Hsub.of_picks inferInstance) ?_
 intro k hk
 have hll : (([sv].length : Nat) : Int) = 1 := rfl
 by_cases hk0 : k = 0
 ·subst hk0
  try refine run ?_
  refine WX.callQ rfl hm rfl ?_
  try refine run ?_
  exact D.rd 1 (by omega) (by omega)
 ·obtain rfl : k = 1 := by omega
  try refine run ?_
  exact D.fin1 [hu, h] _ rfl rfl ⟨rfl, rfl⟩
theorem encN_at : ∀ (i n : Nat), (i = 0 ∨ 1 ≤ n / 128 ^ i) → ∃ pre, pre.length = i ∧ encN n = pre ++ encN (n / 128 ^ i) := by
 intro i
 induction i with
 | zero => intro n _; exact ⟨[], rfl, by simp⟩
 | succ i ih =>
  intro n h
  have h1 : 1 ≤ n / 128 ^ (i + 1) := by omega
  have h2 : ¬ n < 128 := by
   intro hlt
   have : n / 128 ^ (i + 1) = 0 := Nat.div_eq_of_lt (Nat.lt_of_lt_of_le hlt (by rw [Nat.pow_succ]; exact Nat.le_mul_of_pos_left _ (Nat.pow_pos (by decide))))
   omega
  have h3 : n / 128 / 128 ^ i = n / 128 ^ (i + 1) := by rw [Nat.div_div_eq_div_mul, Nat.pow_succ, Nat.mul_comm]
  obtain ⟨pre, hp, he⟩ := ih (n / 128) (.inr (by rw [h3]; exact h1))
  refine ⟨UInt8.ofNat (128 + n % 128) :: pre, by simp [hp], ?_⟩
  rw [encN_ge h2, he, h3]
  rfl
theorem pow128 (i : Nat) : 2 ^ (7 * i) = 128 ^ i := by rw [Nat.pow_mul]
theorem le8 {n i : Nat} (hn : n ≤ 4611686018427387904) (h : i = 0 ∨ 1 ≤ n / 128 ^ i) : i ≤ 8 := by
 rcases h with h | h
 ·omega
 ·have h1 : 128 ^ i ≤ n := by
   have := Nat.div_mul_le_self n (128 ^ i)
   exact Nat.le_trans (Nat.le_mul_of_pos_left _ h) this
  rcases Nat.lt_or_ge 8 i with h2 | h2
  ·have : 128 ^ 9 ≤ 128 ^ i := Nat.pow_le_pow_right (by decide) h2
   omega
  ·exact h2
set_option maxHeartbeats 1000000 in
theorem take_ct {C : Cd} {v : Value} {h : Hp} (hs : Rs C.b v h) {n : Nat} (hn : n ≤ 4611686018427387904) {rest : List UInt8} (hd : C.b.drop C.p = encN n ++ rest) (hl : C.b.length ≤ 1099511627776) {c : Nat} :
  Ct prog 224 [.pointer (some ⟨c, 0, none⟩)] [CBk c C v, h] (fun r H' => r = .int .i64 (n : Int) ∧ H' = [CBk c { C with p := C.p + (encN n).length } v, h]) := by
 obtain ⟨B, p, rd, bad, arg, long⟩ := C
 simp only [] at hs hd hl ⊢
 refine Ct.mk' func224 rfl rfl rfl (fun g R => ?_)
 try simp only [ca]
 simp only [na]
 repeat' (first | refine run ?_ | refine W.scopeF 0 rfl ?_ | fail)
 refine W.as 3 (.int .u64 ((n % 128 ^ 0 : Nat) : Int)) rfl (by rw [Nat.pow_zero, Nat.mod_one]; rfl) ?_
 refine W.loop (α := Nat) (fun i => i = 0 ∨ 1 ≤ n / 128 ^ i) (fun i => [(0, .pointer (some ⟨c, 0, none⟩)), (3, .int .u64 ((n % 128 ^ i : Nat) : Int)), (4, .int .i64 (i : Int))]) (fun i => [CBr c v (p + i) rd bad arg long, h, R]) (fun i => 9 - i) 0 (.inl rfl) (by repeat (first | exact Fsub.nil | refine Fsub.cons rfl ?_)) (Hsub.of_picks inferInstance) ?_
 intro i hi
 have hi8 := le8 hn hi
 obtain ⟨pre, hpl, hpe⟩ := encN_at i n hi
 have hlen : (encN n).length = i + (encN (n / 128 ^ i)).length := by rw [hpe, length_append, hpl]
 have hdi : B.drop (p + i) = encN (n / 128 ^ i) ++ rest := by
  rw [← drop_drop, hd, hpe, append_assoc, drop_append_of_le_length (by omega), ← hpl, drop_length]; rfl
 have hpi : p + i < B.length := by
  have := congrArg List.length hdi
  rw [length_drop, length_append] at this
  have := encN_pos (n / 128 ^ i)
  omega
 have hmn : n % 128 ^ i ≤ n := Nat.mod_le _ _
 have hsu : n % 128 ^ (i + 1) = n % 128 ^ i + n / 128 ^ i % 128 * 2 ^ (7 * i) := by rw [pow128, Nat.pow_succ, Nat.mod_mul, Nat.mul_comm (128 ^ i)]
 have hmn1 : n % 128 ^ (i + 1) ≤ n := Nat.mod_le _ _
 have hb : n / 128 ^ i % 128 * 2 ^ (7 * i) ≤ 4611686018427387904 := by omega
 have h7 : 7 * i ≤ IntKind.u64.bits := by show 7 * i ≤ 64; omega
 generalize hm : n / 128 ^ i = m at *
 obtain ⟨x, hx⟩ : ∃ x, B[p + i]? = some x := ⟨_, List.getElem?_eq_getElem hpi⟩
 have hx0 : (encN m ++ rest)[0]? = some x := by rw [← hdi, List.getElem?_drop]; exact hx
 by_cases hge : m < 128
 ·have hxm : x.toNat = m := by
   rw [encN_lt hge] at hx0
   have : UInt8.ofNat m = x := by simpa using hx0
   rw [← this, byte_ofNat (by omega)]
  have hnn : n % 128 ^ (i + 1) = n := by
   refine Nat.mod_eq_of_lt ?_
   rw [Nat.pow_succ, Nat.mul_comm, ← Nat.div_lt_iff_lt_mul (Nat.pow_pos (by decide)), hm]
   exact hge
  have hl1 : (encN n).length = i + 1 := by rw [hlen, encN_lt hge]; rfl
  by_cases hm0 : m = 0
  ·have hi0 : i = 0 := by omega
   try refine run ?_
   refine W.quiet Tryz.mix (by kernel_rfl) ?_
   try refine run ?_
   refine W.quiet Tryz.mix (by kernel_rfl) ?_
   repeat' (first | refine run ?_ | refine WX.rem rfl rfl rfl (by decide) ?_ | fail)
   refine WX.as 39 (.int .u8 ((m % 128 : Nat) : Int)) rfl (by rw [hxm, show ((128 : Int)) = ((128 : Nat) : Int) from rfl, ← Int.ofNat_tmod]) ?_
   refine WX.conv rfl rfl (IntWalk.u64_in _ (by omega)) ?_
   repeat' (first | refine run ?_ | refine WX.mul rfl rfl rfl (by omega) ?_ | fail)
   refine WX.as 42 (.int .i64 ((7 * i : Nat) : Int)) rfl (by congr 1) ?_
   refine WX.shlN rfl rfl h7 (IntWalk.u64_in _ ⟨Int.natCast_nonneg _, Int.le_trans (Int.ofNat_le.2 hb) (by decide)⟩) rfl ?_
   refine WX.addW rfl rfl rfl ?_
   refine WX.as 44 (.int .u64 ((n % 128 ^ (i + 1) : Nat) : Int)) rfl (by rw [← Int.natCast_add, ← hsu]; exact congrArg _ (IntWalk.u64_in _ (by omega))) ?_
   repeat' (first | refine run ?_ | refine WX.conv rfl rfl (IntWalk.i64_in _ (by omega)) ?_ | fail)
   rw [show (((p + i : Nat) : Int) + 1) = ((p + (i + 1) : Nat) : Int) from rfl, hl1]
   exact D.fin1 [CBr c v (p + (i + 1)) rd bad arg long, h] _ rfl rfl ⟨by rw [hnn], rfl⟩
  ·skip
   try refine run ?_
   refine W.quiet Tryz.mix (by kernel_rfl) ?_
   try refine run ?_
   refine W.quiet Tryz.mix (by kernel_rfl) ?_
   repeat' (first | refine run ?_ | refine WX.rem rfl rfl rfl (by decide) ?_ | fail)
   refine WX.as 39 (.int .u8 ((m % 128 : Nat) : Int)) rfl (by rw [hxm, show ((128 : Int)) = ((128 : Nat) : Int) from rfl, ← Int.ofNat_tmod]) ?_
   refine WX.conv rfl rfl (IntWalk.u64_in _ (by omega)) ?_
   repeat' (first | refine run ?_ | refine WX.mul rfl rfl rfl (by omega) ?_ | fail)
   refine WX.as 42 (.int .i64 ((7 * i : Nat) : Int)) rfl (by congr 1) ?_
   refine WX.shlN rfl rfl h7 (IntWalk.u64_in _ ⟨Int.natCast_nonneg _, Int.le_trans (Int.ofNat_le.2 hb) (by decide)⟩) rfl ?_
   refine WX.addW rfl rfl rfl ?_
   refine WX.as 44 (.int .u64 ((n % 128 ^ (i + 1) : Nat) : Int)) rfl (by rw [← Int.natCast_add, ← hsu]; exact congrArg _ (IntWalk.u64_in _ (by omega))) ?_
   repeat' (first | refine run ?_ | refine WX.conv rfl rfl (IntWalk.i64_in _ (by omega)) ?_ | fail)
   rw [show (((p + i : Nat) : Int) + 1) = ((p + (i + 1) : Nat) : Int) from rfl, hl1]
   exact D.fin1 [CBr c v (p + (i + 1)) rd bad arg long, h] _ rfl rfl ⟨by rw [hnn], rfl⟩
 ·have hxm : x.toNat = 128 + m % 128 := by
   rw [encN_ge hge] at hx0
   have : UInt8.ofNat (128 + m % 128) = x := by simpa using hx0
   rw [← this, byte_ofNat (by omega)]
  try refine run ?_
  refine W.quiet Tryz.mix (by kernel_rfl) ?_
  try refine run ?_
  refine W.quiet Tryz.mix (by kernel_rfl) ?_
  repeat' (first | refine run ?_ | refine WX.rem rfl rfl rfl (by decide) ?_ | fail)
  refine WX.as 39 (.int .u8 ((m % 128 : Nat) : Int)) rfl (by rw [hxm, show ((128 : Int)) = ((128 : Nat) : Int) from rfl, ← Int.ofNat_tmod]; congr 1; omega) ?_
  refine WX.conv rfl rfl (IntWalk.u64_in _ (by omega)) ?_
  repeat' (first | refine run ?_ | refine WX.mul rfl rfl rfl (by omega) ?_ | fail)
  refine WX.as 42 (.int .i64 ((7 * i : Nat) : Int)) rfl (by congr 1) ?_
  refine WX.shlN rfl rfl h7 (IntWalk.u64_in _ ⟨Int.natCast_nonneg _, Int.le_trans (Int.ofNat_le.2 hb) (by decide)⟩) rfl ?_
  refine WX.addW rfl rfl rfl ?_
  refine WX.as 44 (.int .u64 ((n % 128 ^ (i + 1) : Nat) : Int)) rfl (by rw [← Int.natCast_add, ← hsu]; exact congrArg _ (IntWalk.u64_in _ (by omega))) ?_
  try refine run ?_
  rw [show (((p + i : Nat) : Int) + 1) = ((p + (i + 1) : Nat) : Int) from rfl]
  exact D.rd (i + 1) (.inr (by rw [Nat.pow_succ, ← Nat.div_div_eq_div_mul, hm]; omega)) (by omega)
end Go.Proofs.YtejfahjgfedliaaGreat

namespace Go.Proofs.YtejfahjgfedliaaGreat
open Go Go.Sl Go.Proofs.Tryz
inductive It where
 | num (o : Nat)
 | txt (o most : Nat)
 | tru (o : Nat)
def It.o : It → Nat
 | .num o => o
 | .txt o _ => o
 | .tru o => o
def okV : It → Value → Prop
 | .num _, u => ∃ n : Int, u = .int .i64 n
 | .txt _ _, u => ∃ s : ByteArray, u = .string s
 | .tru _, u => ∃ t : Bool, u = .bool t
def encI : It → Value → Option (List UInt8)
 | .num _, .int .i64 n => if n < 0 ∨ 4611686018427387904 < n then none else some (encN n.toNat)
 | .txt _ _, .string s => some (encN s.data.toList.length ++ s.data.toList)
 | .tru _, .bool t => some (encN (if t = true then 1 else 0))
 | _, _ => none
def longI : It → Value → Bool
 | .txt _ most, .string s => decide (most < s.data.toList.length)
 | _, _ => false
theorem encI_num {o : Nat} {n : Int} : encI (.num o) (.int .i64 n) = if n < 0 ∨ 4611686018427387904 < n then none else some (encN n.toNat) := rfl
theorem longI_num {o : Nat} {n : Int} : longI (.num o) (.int .i64 n) = false := rfl
inductive CSt : Cd → List Value → It → Cd → List Value → Prop
 | w {C : Cd} {vs : List Value} {it : It} {u : Value} (hr : C.rd = false) (hv : vs[it.o]? = some u) (ok : okV it u) : CSt C vs it { C with b := C.b ++ (encI it u).getD [], arg := C.arg || (encI it u).isNone, long := C.long || longI it u } vs
 | r {C : Cd} {vs : List Value} {it : It} {u u0 : Value} {e rest : List UInt8} (hr : C.rd = true) (hv : vs[it.o]? = some u0) (ok0 : okV it u0) (ok : okV it u) (he : encI it u = some e) (hd : C.b.drop C.p = e ++ rest) :
  CSt C vs it { C with p := C.p + e.length } (vs.set it.o u)
structure CdOk (C : Cd) (v : Value) (h : Hp) : Prop where
 r : C.rd = true → Rs C.b v h
 w : C.rd = false → IsSl 5 C.b v h
 l : C.b.length ≤ 1099511627776
theorem Cd.num_eq (C : Cd) (n : Int) {o : Nat} : C.num n = { C with b := C.b ++ (encI (.num o) (.int .i64 n)).getD [], arg := C.arg || (encI (.num o) (.int .i64 n)).isNone, long := C.long || longI (.num o) (.int .i64 n) } := by
 unfold Cd.num
 rw [encI_num, longI_num]
 obtain ⟨B, p, rd, bad, arg, long⟩ := C
 by_cases h : n < 0 ∨ 4611686018427387904 < n
 ·rw [if_pos h, if_pos h]; simp
 ·rw [if_neg h, if_neg h]; simp
theorem num_ct {C C' : Cd} {vs vs' : List Value} {o : Nat} (hst : CSt C vs (.num o) C' vs') {v : Value} {h : Hp} (hok : CdOk C v h) (hl : C'.b.length ≤ 1099511627776) {c b T : Nat} :
  Ct prog 187 [.pointer (some ⟨c, 0, none⟩), .pointer (some ⟨b, o, none⟩)] [CBk c C v, [(b, .cells vs.toArray T (0, 0))], h] (fun _ H' => ∃ v' h', H' = [CBk c C' v', [(b, .cells vs'.toArray T (0, 0))], h'] ∧ CdOk C' v' h' ∧ (C.rd = true → v' = v ∧ h' = h)) := by
 cases hst with
 | @w u hr hv ok =>
  obtain ⟨n, rfl⟩ := ok
  rw [← Cd.num_eq] at hl ⊢
  refine Ct.mono (numW_ct hr (hok.w hr) hv hok.l) ?_
  rintro r H' ⟨v', h', rfl, hs⟩
  have hrd : (C.num n).rd = C.rd := by unfold Cd.num; split <;> rfl
  exact ⟨v', h', rfl, ⟨fun e => (by rw [hrd, hr] at e; cases e), fun _ => hs, hl⟩, fun e => by rw [hr] at e; cases e⟩
 | @r u u0 e rest hr hv ok0 ok he hd =>
  obtain ⟨n, rfl⟩ := ok
  obtain ⟨n0, rfl⟩ := ok0
  have hv : vs[o]? = some (.int .i64 n0) := hv
  have hne : ¬ (n < 0 ∨ 4611686018427387904 < n) := fun hc => by rw [encI_num, if_pos hc] at he; cases he
  have he : e = encN n.toNat := by rw [encI_num, if_neg hne] at he; exact (Option.some.inj he).symm
  subst he
  obtain ⟨m, rfl⟩ : ∃ m : Nat, n = (m : Int) := ⟨n.toNat, by omega⟩
  rw [Int.toNat_natCast] at hd hl ⊢
  have ht := take_ct (c := c) (hok.r hr) (n := m) (by omega) hd hok.l
  obtain ⟨B, p, rd, bad, arg, long⟩ := C
  simp only [] at hr hl ht hok ⊢
  subst hr
  have hlt : Nat.blt o vs.length = true := Nat.ble_eq_true_of_le (List.getElem?_eq_some_iff.1 hv).1
  refine Ct.pack (pre := [CBr c v p true bad arg long, [(b, .cells vs.toArray T (0, 0))], h]) (post := fun r H' => H' = [CBr c v (p + (encN m).length) true bad arg long, [(b, .cells (vs.set o (.int .i64 (m : Int))).toArray T (0, 0))], h]) ?_ rfl
   (fun r H' e => ⟨_, rfl, v, h, e, ⟨fun _ => hok.r rfl, fun e => (by cases e), hl⟩, fun _ => ⟨rfl, rfl⟩⟩)
  have ht : Ct prog 224 [.pointer (some ⟨c, 0, none⟩)] [CBr c v p true bad arg long, h] (fun r H' => r = .int .i64 (m : Int) ∧ H' = [CBr c v (p + (encN m).length) true bad arg long, h]) := ht
  refine Ct.mk' func187 rfl rfl rfl (fun g R => ?_)
  try simp only [ca]
  simp only [na]
  try refine run ?_
  refine WX.call rfl ht rfl ?_
  rintro _ _ ⟨rfl, rfl⟩
  simp only [ca, na]
  repeat' (first | refine run ?_ | refine WX.store rfl rfl rfl hlt ?_ | fail)
  exact D.fin0 [CBr c v (p + (encN m).length) true bad arg long, [(b, .cells (vs.set o (.int .i64 (m : Int))).toArray T (0, 0))], h] _ rfl rfl
end Go.Proofs.YtejfahjgfedliaaGreat

namespace Go.Proofs.YtejfahjgfedliaaGreat
open Go Go.Sl Go.Proofs.Tryz List
inductive CRun : Cd → List Value → List It → Cd → List Value → Prop
 | nil {C : Cd} {vs : List Value} : CRun C vs [] C vs
 | cons {C C1 C2 : Cd} {vs vs1 vs2 : List Value} {it : It} {its : List It} (h : CSt C vs it C1 vs1) (t : CRun C1 vs1 its C2 vs2) : CRun C vs (it :: its) C2 vs2
theorem CSt.facts {C C' : Cd} {vs vs' : List Value} {it : It} (h : CSt C vs it C' vs') : C'.rd = C.rd ∧ C.b.length ≤ C'.b.length ∧ vs'.length = vs.length ∧ (C.rd = true → C'.b = C.b) ∧ (C.rd = false → vs' = vs) := by
 cases h with
 | w hr hv ok => exact ⟨rfl, by simp, rfl, fun e => (by rw [hr] at e; cases e), fun _ => rfl⟩
 | r hr hv ok0 ok he hd => exact ⟨rfl, Nat.le_refl _, by simp, fun _ => rfl, fun e => (by rw [hr] at e; cases e)⟩
theorem CRun.facts {C C' : Cd} {vs vs' : List Value} {its : List It} (h : CRun C vs its C' vs') : C'.rd = C.rd ∧ C.b.length ≤ C'.b.length ∧ vs'.length = vs.length ∧ (C.rd = true → C'.b = C.b) ∧ (C.rd = false → vs' = vs) := by
 induction h with
 | nil => exact ⟨rfl, Nat.le_refl _, rfl, fun _ => rfl, fun _ => rfl⟩
 | cons h t ih =>
  obtain ⟨a1, a2, a3, a4, a5⟩ := h.facts
  obtain ⟨b1, b2, b3, b4, b5⟩ := ih
  exact ⟨b1.trans a1, Nat.le_trans a2 b2, b3.trans a3, fun e => (b4 (a1.trans e)).trans (a4 e), fun e => (b5 (a1.trans e)).trans (a5 e)⟩
theorem CRun.split {C C2 : Cd} {vs vs2 : List Value} {is1 is2 : List It} (h : CRun C vs (is1 ++ is2) C2 vs2) : ∃ C1 vs1, CRun C vs is1 C1 vs1 ∧ CRun C1 vs1 is2 C2 vs2 := by
 induction is1 generalizing C vs with
 | nil => exact ⟨C, vs, .nil, h⟩
 | cons i r ih =>
  cases h with
  | cons h t =>
   obtain ⟨C1, vs1, h1, h2⟩ := ih t
   exact ⟨C1, vs1, .cons h h1, h2⟩
abbrev CPost (c b T : Nat) (C C' : Cd) (v : Value) (h : Hp) (vs' : List Value) (X : HH) : Value → HH → Prop :=
 fun _ H' => ∃ v' h', H' = CBk c C' v' :: [(b, .cells vs'.toArray T (0, 0))] :: h' :: X ∧ CdOk C' v' h' ∧ (C.rd = true → v' = v ∧ h' = h)
structure Pv where
 b : Nat
 o : Nat
instance : Enc Pv := ⟨1, fun s => [.pointer (some ⟨s.b, s.o, none⟩)], fun _ => rfl, fun _ => rfl, by decide⟩
theorem numbers_ct {C C' : Cd} {vs vs' : List Value} {os : List Nat} (hrun : CRun C vs (os.map .num) C' vs') {v : Value} {h : Hp} (hok : CdOk C v h) (hl : C'.b.length ≤ 1099511627776) {c b T : Nat}
  {u : Value} {hu : Hp} (hps : Rs (os.map (Pv.mk b)) u hu) (hn : os.length ≤ 1099511627776) :
  Ct prog 225 [.pointer (some ⟨c, 0, none⟩), u] [CBk c C v, [(b, .cells vs.toArray T (0, 0))], h, hu] (CPost c b T C C' v h vs' [hu]) := by
 have hol : (os.map (Pv.mk b)).length = os.length := length_map _
 refine Ct.mk' func225 rfl rfl rfl (fun g R => ?_)
 try simp only [ca]
 simp only [na]
 try refine run ?_
 refine W.loop (α := Nat × Cd × List Value × Value × Hp) (fun x => x.1 ≤ os.length ∧ CRun x.2.1 x.2.2.1 ((os.drop x.1).map .num) C' vs' ∧ CdOk x.2.1 x.2.2.2.1 x.2.2.2.2 ∧ x.2.1.rd = C.rd ∧ (C.rd = true → x.2.2.2.1 = v ∧ x.2.2.2.2 = h))
  (fun x => [(0, .pointer (some ⟨c, 0, none⟩)), (6, u), (7, .int .i64 ((os.map (Pv.mk b)).length : Int)), (8, .int .i64 (x.1 : Int))])
  (fun x => [CBk c x.2.1 x.2.2.2.1, [(b, .cells x.2.2.1.toArray T (0, 0))], x.2.2.2.2, hu, R]) (fun x => os.length - x.1) (0, C, vs, v, h) ⟨Nat.zero_le _, hrun, hok, rfl, fun _ => ⟨rfl, rfl⟩⟩ (by repeat (first | exact Fsub.nil | refine Fsub.cons rfl ?_)) (Hsub.of_picks inferInstance) ?_
 rintro ⟨k, Dk, ws, y, hy⟩ ⟨hk, hr, ok, hrd, hkeep⟩
 simp only [] at hk hr ok hrd hkeep ⊢
 by_cases hlt : k < os.length
 ·obtain ⟨o, ho⟩ : ∃ o, os[k]? = some o := ⟨_, List.getElem?_eq_getElem hlt⟩
  obtain ⟨h1, h2⟩ := List.getElem?_eq_some_iff.1 ho
  have hpk : (os.map (Pv.mk b))[k]? = some ⟨b, o⟩ := by rw [List.getElem?_map, ho]; rfl
  rw [drop_eq_getElem_cons h1, h2, map_cons] at hr
  cases hr with
  | @cons _ D1 _ _ ws1 _ _ _ hst ht =>
   have hf := hst.facts
   have hn1 := num_ct (c := c) (b := b) (T := T) hst ok (Nat.le_trans ht.facts.2.1 hl)
   try refine run ?_
   refine WX.call rfl hn1 rfl ?_
   rintro _ _ ⟨y', hy', rfl, ok', hk'⟩
   simp only [ca, na]
   try refine run ?_
   exact D.round (k + 1, D1, ws1, y', hy') ⟨by omega, ht, ok', hf.1.trans hrd, fun e => by
    obtain ⟨e1, e2⟩ := hk' (hrd.trans e)
    obtain ⟨e3, e4⟩ := hkeep e
    exact ⟨e1.trans e3, e2.trans e4⟩⟩ (by simp only []; omega) (by repeat (first | exact Fsub.nil | refine Fsub.cons rfl ?_)) (Hsub.of_picks inferInstance)
 ·obtain rfl : k = os.length := by omega
  rw [drop_length] at hr
  cases hr
  try refine run ?_
  exact D.finE [CBk c C' y, [(b, .cells vs'.toArray T (0, 0))], hy, hu] _ rfl ⟨y, hy, rfl, ok, hkeep⟩
def bit (t : Bool) : Nat := if t = true then 1 else 0
theorem encI_bit (t : Bool) : encI (.num 0) (.int .i64 (bit t : Nat)) = some (encN (bit t)) := by
 rw [encI_num, if_neg (by cases t <;> decide)]
 rfl
theorem encI_tru {o : Nat} (t : Bool) : encI (.tru o) (.bool t) = some (encN (bit t)) := rfl
theorem set_self {vs : List Value} {o : Nat} {u : Value} (h : vs[o]? = some u) : vs.set o u = vs := by
 obtain ⟨h1, h2⟩ := List.getElem?_eq_some_iff.1 h
 rw [← h2]; exact set_getElem_self h1
theorem tru_split {C C' : Cd} {vs vs' : List Value} {o : Nat} (h : CSt C vs (.tru o) C' vs') :
  ∃ (t0 t : Bool) (n0 n : Int), n0 = (if t0 = true then 1 else 0) ∧ n = (if t = true then 1 else 0) ∧ vs[o]? = some (.bool t0) ∧ CSt C [.int .i64 n0] (.num 0) C' [.int .i64 n] ∧ vs' = vs.set o (.bool t) := by
 have hb : ∀ t : Bool, ((bit t : Nat) : Int) = (if t = true then 1 else 0) := fun t => by cases t <;> rfl
 cases h with
 | @w u hr hv ok =>
  obtain ⟨t, rfl⟩ := ok
  refine ⟨t, t, _, _, hb t, hb t, hv, ?_, (set_self hv).symm⟩
  have := CSt.w (C := C) (vs := [.int .i64 (bit t : Nat)]) (it := .num 0) hr rfl ⟨_, rfl⟩
  rw [encI_bit] at this
  exact this
 | @r u u0 e rest hr hv ok0 ok he hd =>
  obtain ⟨t, rfl⟩ := ok
  obtain ⟨t0, rfl⟩ := ok0
  refine ⟨t0, t, _, _, hb t0, hb t, hv, ?_, rfl⟩
  rw [encI_tru] at he
  exact CSt.r (vs := [.int .i64 (bit t0 : Nat)]) (it := .num 0) (u := .int .i64 (bit t : Nat)) hr rfl ⟨_, rfl⟩ ⟨_, rfl⟩ (by rw [encI_bit]; exact he) hd
theorem truth_ct {C C' : Cd} {vs vs' : List Value} {o : Nat} (hst : CSt C vs (.tru o) C' vs') {v : Value} {h : Hp} (hok : CdOk C v h) (hl : C'.b.length ≤ 1099511627776) {c b T : Nat} :
  Ct prog 227 [.pointer (some ⟨c, 0, none⟩), .pointer (some ⟨b, o, none⟩)] [CBk c C v, [(b, .cells vs.toArray T (0, 0))], h] (CPost c b T C C' v h vs' []) := by
 obtain ⟨t0, t, n0, n, e0, e1, hv, hn, rfl⟩ := tru_split hst
 have hlt : Nat.blt o vs.length = true := Nat.ble_eq_true_of_le (List.getElem?_eq_some_iff.1 hv).1
 obtain ⟨B', p', rd', bad', arg', long'⟩ := C'
 refine Ct.mk' func227 rfl rfl rfl (fun g R => ?_)
 try simp only [ca]
 simp only [na]
 cases t0 <;> simp only [if_true, if_false, Bool.false_eq_true] at e0 <;> subst e0
 all_goals
  repeat' (first | refine run ?_ | refine al (fun _ => ?_) | refine WX.load rfl hv rfl ?_ | fail)
  rename_i nb
  refine WX.call rfl (num_ct (c := c) (b := nb) (T := 3) hn hok hl) rfl ?_
  rintro _ _ ⟨v1, h1, rfl, ok1, keep1⟩
  simp only [ca, na]
  refine WX.flat (H' := [CBr c v1 p' rd' bad' arg' long', _, h1, _, _]) rfl ?_
  cases t <;> simp only [if_true, if_false, Bool.false_eq_true] at e1 <;> subst e1 <;> cases bad'
 all_goals
  repeat' (first | refine run ?_ | refine WX.store rfl rfl rfl hlt ?_ | fail)
 all_goals
  try rw [show decide ((1 : Int) = 1) = true from rfl]
  try rw [show decide ((0 : Int) = 1) = false from rfl]
  try rw [show decide ((1 : Int) < 1) = false from rfl]
  try rw [show decide ((1 : Int) < 0) = false from rfl]
  exact D.finE _ _ rfl ⟨v1, h1, rfl, ok1, keep1⟩
theorem txt_w {C C' : Cd} {vs vs' : List Value} {o most : Nat} (h : CSt C vs (.txt o most) C' vs') (hr : C.rd = false) (hl : C'.b.length ≤ 1099511627776) :
  ∃ (s : ByteArray) (C1 : Cd), vs[o]? = some (.string s) ∧ vs' = vs ∧ CSt C [.int .i64 (s.size : Int)] (.num 0) C1 [.int .i64 (s.size : Int)] ∧ C' = { C1 with b := C1.b ++ s.data.toList, long := C1.long || decide (most < s.size) } := by
 cases h with
 | @r u u0 e rest hr' hv ok0 ok he hd => rw [hr] at hr'; cases hr'
 | @w u hr' hv ok =>
  obtain ⟨s, rfl⟩ := ok
  have hsl : s.size ≤ 1099511627776 := by
   have e1 : s.data.toList.length = s.size := rfl
   simp only [encI, Option.getD_some, length_append, e1] at hl
   omega
  have hw := CSt.w (C := C) (vs := [.int .i64 (s.size : Int)]) (it := .num 0) hr rfl ⟨_, rfl⟩
  have he : encI (.num 0) (.int .i64 (s.size : Int)) = some (encN s.size) := by rw [encI_num, if_neg (by omega)]; rfl
  rw [he] at hw
  refine ⟨s, _, hv, rfl, hw, ?_⟩
  simp only [encI, longI, Option.getD_some, Option.isNone_some, Bool.or_false, append_assoc]
  rfl
theorem txt_r {C C' : Cd} {vs vs' : List Value} {o most : Nat} (h : CSt C vs (.txt o most) C' vs') (hr : C.rd = true) (hl : C.b.length ≤ 1099511627776) {s0 : ByteArray} (hv0 : vs[o]? = some (.string s0)) :
  ∃ (s : ByteArray) (C1 : Cd) (rest : List UInt8), vs' = vs.set o (.string s) ∧ CSt C [.int .i64 (s0.size : Int)] (.num 0) C1 [.int .i64 (s.size : Int)] ∧ C1.b.drop C1.p = s.data.toList ++ rest ∧ C1.b = C.b ∧ C1.p ≤ C1.b.length ∧ C' = { C1 with p := C1.p + s.size } := by
 cases h with
 | @w u hr' hv ok => rw [hr] at hr'; cases hr'
 | @r u u0 e rest hr' hv ok0 ok he hd =>
  obtain ⟨s, rfl⟩ := ok
  have he' : e = encN s.size ++ s.data.toList := (Option.some.inj he).symm
  subst he'
  have hsl : s.size ≤ 1099511627776 := by
   have e1 : s.data.toList.length = s.size := rfl
   have := congrArg List.length hd
   rw [length_drop, length_append, length_append, e1] at this
   omega
  have hs : encI (.num 0) (.int .i64 (s.size : Int)) = some (encN s.size) := by rw [encI_num, if_neg (by omega)]; rfl
  rw [append_assoc] at hd
  refine ⟨s, _, rest, rfl, CSt.r (C := C) (vs := [.int .i64 (s0.size : Int)]) (it := .num 0) hr rfl ⟨_, rfl⟩ ⟨_, rfl⟩ hs hd, ?_, rfl, ?_, ?_⟩
  ·simp only []
   rw [← drop_drop, hd, drop_left]
  ·have := congrArg List.length hd
   rw [length_drop, length_append] at this
   have := encN_pos s.size
   simp only []
   omega
  ·simp only [length_append]
   rw [Nat.add_assoc]
   rfl
theorem CSt.txt0 {C C' : Cd} {vs vs' : List Value} {o most : Nat} (h : CSt C vs (.txt o most) C' vs') : ∃ s0 : ByteArray, vs[o]? = some (.string s0) := by
 cases h with
 | w hr' hv ok => obtain ⟨s, rfl⟩ := ok; exact ⟨s, hv⟩
 | r hr' hv ok0 ok he hd => obtain ⟨s, rfl⟩ := ok0; exact ⟨s, hv⟩
theorem text_ct {C C' : Cd} {vs vs' : List Value} {o most : Nat} (hst : CSt C vs (.txt o most) C' vs') {v : Value} {h : Hp} (hok : CdOk C v h) (hl : C'.b.length ≤ 1099511627776) {c b T : Nat} :
  Ct prog 226 [.pointer (some ⟨c, 0, none⟩), .pointer (some ⟨b, o, none⟩), .int .i64 (most : Int)] [CBk c C v, [(b, .cells vs.toArray T (0, 0))], h] (CPost c b T C C' v h vs' []) := by
 obtain ⟨s0, hv⟩ := hst.txt0
 have hlt : Nat.blt o vs.length = true := Nat.ble_eq_true_of_le (List.getElem?_eq_some_iff.1 hv).1
 cases hr : C.rd with
 | false =>
  obtain ⟨s, C1, hv', rfl, hn, rfl⟩ := txt_w hst hr hl
  rw [hv] at hv'
  cases hv'
  have hrd := hn.facts.1
  rw [hr] at hrd
  obtain ⟨B, p, rd, bad, arg, long⟩ := C1
  simp only [] at hrd hl ⊢
  subst hrd
  rw [length_append] at hl
  refine Ct.mk' func226 rfl rfl rfl (fun g R => ?_)
  try simp only [ca]
  simp only [na]
  repeat' (first | refine run ?_ | refine al (fun _ => ?_) | refine WX.load rfl hv rfl ?_ | fail)
  rename_i nb
  refine WX.call rfl (num_ct (c := c) (b := nb) (T := 3) hn hok (by simp only []; omega)) rfl ?_
  rintro _ _ ⟨v1, h1, rfl, ok1, keep1⟩
  simp only [ca, na]
  refine WX.flat (H' := [CBr c v1 p false bad arg long, _, h1, _, _]) rfl ?_
  have hw1 : IsSl 5 B v1 h1 := ok1.w rfl
  have hdm : decide ((most : Int) < (s0.size : Int)) = decide (most < s0.size) := by simp
  generalize hlg : (long || decide (most < s0.size)) = lg
  cases long with
  | true =>
   have : lg = true := hlg.symm
   subst this
   try refine run ?_
   refine W.mix (List.replicate 8 true ++ [false]) [CBr c v1 p false bad arg true, [(b, .cells vs'.toArray T (0, 0))]] Tryz.mix (by kernel_rfl) ?_
   repeat' (first | refine run ?_ | refine WX.load rfl hv rfl ?_ | fail)
   refine WX.appS rfl rfl hw1 rfl (by decide) (by omega) rfl (fun v2 h2 hs2 => ?_)
   obtain ⟨p2, n2, c2, rfl⟩ := hs2.sh
   try refine run ?_
   exact D.fin0 _ _ rfl ⟨.slice p2 n2 c2, h2, rfl, ⟨fun e => (by cases e), fun _ => hs2, by rw [length_append]; exact hl⟩, fun e => (by rw [hr] at e; cases e)⟩
  | false =>
   have : decide (most < s0.size) = lg := hlg
   try refine run ?_
   rw [hdm, this]
   refine W.mix (List.replicate 8 true ++ [false]) [CBr c v1 p false bad arg lg, [(b, .cells vs'.toArray T (0, 0))]] Tryz.mix (by kernel_rfl) ?_
   repeat' (first | refine run ?_ | refine WX.load rfl hv rfl ?_ | fail)
   refine WX.appS rfl rfl hw1 rfl (by decide) (by omega) rfl (fun v2 h2 hs2 => ?_)
   obtain ⟨p2, n2, c2, rfl⟩ := hs2.sh
   try refine run ?_
   exact D.fin0 _ _ rfl ⟨.slice p2 n2 c2, h2, rfl, ⟨fun e => (by cases e), fun _ => hs2, by rw [length_append]; exact hl⟩, fun e => (by rw [hr] at e; cases e)⟩
 | true =>
  obtain ⟨s, C1, rest, rfl, hn, hd, hb1, hps, rfl⟩ := txt_r hst hr hok.l hv
  have hrd := hn.facts.1
  rw [hr] at hrd
  obtain ⟨B, p, rd, bad, arg, long⟩ := C1
  simp only [] at hrd hl hd hb1 hps ⊢
  subst hrd
  refine Ct.mk' func226 rfl rfl rfl (fun g R => ?_)
  try simp only [ca]
  simp only [na]
  repeat' (first | refine run ?_ | refine al (fun _ => ?_) | refine WX.load rfl hv rfl ?_ | fail)
  rename_i nb
  refine WX.call rfl (num_ct (c := c) (b := nb) (T := 3) hn hok hl) rfl ?_
  rintro _ _ ⟨v1, h1, rfl, ok1, keep1⟩
  simp only [ca, na]
  refine WX.flat (H' := [CBr c v1 p true bad arg long, _, h1, _, _]) rfl ?_
  have hr1 : Rs B v1 h1 := ok1.r rfl
  obtain ⟨p1, l1, c1, rfl⟩ : ∃ p l c, v1 = .slice p l c := by obtain ⟨p, c, e⟩ := hr1.len; exact ⟨_, _, _, e⟩
  have hle := congrArg List.length hd
  have e1 : s.data.toList.length = s.size := rfl
  rw [length_drop, length_append, e1] at hle
  have hcap : B.length ≤ c1 := by obtain ⟨a, cc, e, le, _⟩ := id hr1; cases e; exact le
  have hrc : Rs s.data.toList (slCut (.slice p1 l1 c1) 1 p (p + s.size) c1) h1 := by
   have := hr1.cut (m := 1) (lo := p) (hi := p + s.size) (mx := c1) rfl (by omega) (by omega) (by omega)
   rw [hd, show p + s.size - p = s.data.toList.length from by rw [e1]; omega, take_left] at this
   exact this
  try refine run ?_
  refine W.quiet Tryz.mix (by kernel_rfl) ?_
  try refine run ?_
  refine W.mix (List.replicate 17 true) [CBr c (.slice p1 l1 c1) p true bad arg long, [(nb, .cells (List.toArray [.int .i64 (s.size : Int)]) 3 (0, 0))], h1] Tryz.mix (by kernel_rfl) ?_
  try refine run ?_
  refine WX.as 70 (.int .i64 ((p + s.size : Nat) : Int)) rfl rfl ?_
  refine WX.cut2 (lo := p) (hi := p + s.size) rfl rfl rfl (by omega) (by omega) rfl ?_
  repeat' (first | refine run ?_ | refine WX.store rfl rfl rfl hlt ?_ | fail)
  rw [strOf_data]
  refine W.mix (List.replicate 6 true) [CBr c (.slice p1 l1 c1) p true bad arg long, [(nb, .cells (List.toArray [.int .i64 (s.size : Int)]) 3 (0, 0))]] Tryz.mix (by kernel_rfl) ?_
  try refine run ?_
  rw [show ((p : Int) + (s.size : Int)) = ((p + s.size : Nat) : Int) from rfl]
  exact D.finE _ _ rfl ⟨.slice p1 l1 c1, h1, rfl, ⟨fun _ => hr1, fun e => (by cases e), hl⟩, keep1⟩
theorem member_ct {C C' : Cd} {vs vs' : List Value} {o : Nat} (hrun : CRun C vs [.num o, .num (o + 1)] C' vs') {v : Value} {h : Hp} (hok : CdOk C v h) (hl : C'.b.length ≤ 1099511627776) {c b T : Nat} :
  Ct prog 229 [.pointer (some ⟨c, 0, none⟩), .pointer (some ⟨b, o, none⟩)] [CBk c C v, [(b, .cells vs.toArray T (0, 0))], h] (CPost c b T C C' v h vs' []) := by
 refine Ct.mk' func229 rfl rfl rfl (fun g R => ?_)
 try simp only [ca]
 simp only [na]
 skip
 refine W.mix (List.replicate 7 true ++ [false, false]) ([] : HH) Tryz.mix (by kernel_rfl) ?_
 try refine run ?_
 refine I.bs ?_
 refine WX.lit (ys := [(⟨b, o⟩ : Pv), ⟨b, o + 1⟩]) rfl rfl rfl rfl rfl rfl (by decide) rfl (fun v1 h1 hs1 => ?_)
 try refine run ?_
 refine WX.call rfl (numbers_ct (c := c) (b := b) (T := T) (os := [o, o + 1]) hrun hok hl hs1.rs (by simp)) rfl ?_
 rintro _ _ ⟨v2, h2, rfl, ok2, keep2⟩
 simp only [ca, na]
 try refine run ?_
 exact D.finE _ _ rfl ⟨v2, h2, rfl, ok2, keep2⟩
def itsV (o : Nat) : List It := (List.range 9).map fun i => .num (o + i)
theorem itsV_drop {o k r : Nat} (hk : k < 3) (hr : r < 3) : (itsV o).drop (k * 3 + r) = .num (o + k * 3 + r) :: (itsV o).drop (k * 3 + (r + 1)) := by
 have : k * 3 + r < (itsV o).length := by simp [itsV]; omega
 rw [drop_eq_getElem_cons this]
 simp [itsV, Nat.add_assoc]
theorem vector_ct {C C' : Cd} {vs vs' : List Value} {o : Nat} (hrun : CRun C vs (itsV o) C' vs') {v : Value} {h : Hp} (hok : CdOk C v h) (hl : C'.b.length ≤ 1099511627776) {c b T : Nat} :
  Ct prog 228 [.pointer (some ⟨c, 0, none⟩), .pointer (some ⟨b, o, none⟩)] [CBk c C v, [(b, .cells vs.toArray T (0, 0))], h] (CPost c b T C C' v h vs' []) := by
 refine Ct.mk' func228 rfl rfl rfl (fun g R => ?_)
 try simp only [ca]
 simp only [na]
 try refine run ?_
 refine W.loop (α := Nat × Cd × List Value × Value × Hp) (fun x => x.1 ≤ 3 ∧ CRun x.2.1 x.2.2.1 ((itsV o).drop (x.1 * 3 + 0)) C' vs' ∧ CdOk x.2.1 x.2.2.2.1 x.2.2.2.2 ∧ x.2.1.rd = C.rd ∧ (C.rd = true → x.2.2.2.1 = v ∧ x.2.2.2.2 = h))
  (fun x => [(0, .pointer (some ⟨c, 0, none⟩)), (1, .pointer (some ⟨b, o, none⟩)), (6, .int .i64 (x.1 : Int))])
  (fun x => [CBk c x.2.1 x.2.2.2.1, [(b, .cells x.2.2.1.toArray T (0, 0))], x.2.2.2.2, R]) (fun x => 3 - x.1) (0, C, vs, v, h) ⟨Nat.zero_le _, hrun, hok, rfl, fun _ => ⟨rfl, rfl⟩⟩ (by repeat (first | exact Fsub.nil | refine Fsub.cons rfl ?_)) (Hsub.of_picks inferInstance) ?_
 rintro ⟨k, Dk, ws, y, hy⟩ ⟨hk, hr, ok, hrd, hkeep⟩
 simp only [] at hk hr ok hrd hkeep ⊢
 by_cases hlt : k < 3
 ·try refine run ?_
  refine W.loop (α := Nat × Cd × List Value × Value × Hp) (fun x => x.1 ≤ 3 ∧ CRun x.2.1 x.2.2.1 ((itsV o).drop (k * 3 + x.1)) C' vs' ∧ CdOk x.2.1 x.2.2.2.1 x.2.2.2.2 ∧ x.2.1.rd = C.rd ∧ (C.rd = true → x.2.2.2.1 = v ∧ x.2.2.2.2 = h))
   (fun x => [(0, .pointer (some ⟨c, 0, none⟩)), (1, .pointer (some ⟨b, o, none⟩)), (4, .int .i64 (k : Int)), (6, .int .i64 (k : Int)), (9, .int .i64 (x.1 : Int))])
   (fun x => [CBk c x.2.1 x.2.2.2.1, [(b, .cells x.2.2.1.toArray T (0, 0))], x.2.2.2.2, R]) (fun x => 3 - x.1) (0, Dk, ws, y, hy) ⟨Nat.zero_le _, hr, ok, hrd, hkeep⟩ (by repeat (first | exact Fsub.nil | refine Fsub.cons rfl ?_)) (Hsub.of_picks inferInstance) ?_
  rintro ⟨r, Dr, wr, yr, hyr⟩ ⟨hr3, hrr, okr, hrdr, hkeepr⟩
  simp only [] at hr3 hrr okr hrdr hkeepr ⊢
  by_cases hrl : r < 3
  ·rw [itsV_drop hlt hrl] at hrr
   cases hrr with
   | @cons _ D1 _ _ ws1 _ _ _ hst ht =>
    try refine run ?_
    refine WX.as 18 (.pointer (some ⟨b, o + k * 3 + r, none⟩)) rfl (by rw [Int.toNat_natCast, Int.toNat_natCast, Nat.mul_one]) ?_
    refine WX.call rfl (num_ct (c := c) (b := b) (T := T) hst okr (Nat.le_trans ht.facts.2.1 hl)) rfl ?_
    rintro _ _ ⟨y', hy', rfl, ok', hk'⟩
    simp only [ca, na]
    try refine run ?_
    exact D.round (r + 1, D1, ws1, y', hy') ⟨by omega, ht, ok', hst.facts.1.trans hrdr, fun e => by
     obtain ⟨e1, e2⟩ := hk' (hrdr.trans e)
     obtain ⟨e3, e4⟩ := hkeepr e
     exact ⟨e1.trans e3, e2.trans e4⟩⟩ (by simp only []; omega) (by repeat (first | exact Fsub.nil | refine Fsub.cons rfl ?_)) (Hsub.of_picks inferInstance)
  ·obtain rfl : r = 3 := by omega
   try refine run ?_
   exact D.rd (k + 1, Dr, wr, yr, hyr) ⟨by omega, by rw [show (k + 1) * 3 + 0 = k * 3 + 3 from by omega]; exact hrr, okr, hrdr, hkeepr⟩ (by simp only []; omega)
 ·obtain rfl : k = 3 := by omega
  have hz : (itsV o).drop (3 * 3 + 0) = [] := rfl
  rw [hz] at hr
  cases hr
  try refine run ?_
  exact D.finE _ _ rfl ⟨y, hy, rfl, ok, hkeep⟩
theorem keep_trans {C C1 : Cd} {v v1 v2 : Value} {h h1 h2 : Hp} (e : C1.rd = C.rd) (k1 : C.rd = true → v1 = v ∧ h1 = h) (k2 : C1.rd = true → v2 = v1 ∧ h2 = h1) : C.rd = true → v2 = v ∧ h2 = h := fun hr => by
 obtain ⟨a1, a2⟩ := k1 hr
 obtain ⟨b1, b2⟩ := k2 (e.trans hr)
 exact ⟨b1.trans a1, b2.trans a2⟩
def itsM (o : Nat) : List It := (List.range 8).map fun i => .num (o + i)
theorem itsM_drop {o k : Nat} (hk : k < 4) : (itsM o).drop (k * 2) = [.num (o + k * 2), .num (o + k * 2 + 1)] ++ (itsM o).drop ((k + 1) * 2) := by
 have h1 : k * 2 < (itsM o).length := by simp [itsM]; omega
 have h2 : k * 2 + 1 < (itsM o).length := by simp [itsM]; omega
 rw [drop_eq_getElem_cons h1, drop_eq_getElem_cons h2, show (k + 1) * 2 = k * 2 + 1 + 1 from by omega]
 simp [itsM, Nat.add_assoc]
def itsC (o : Nat) : List It := [.num o, .num (o + 1)] ++ (itsM (o + 2) ++ ([.tru (o + 10)] ++ [.num (o + 11), .num (o + 12)]))
theorem CRun.one {C C' : Cd} {vs vs' : List Value} {it : It} (h : CRun C vs [it] C' vs') : CSt C vs it C' vs' := by
 cases h with
 | cons h t => cases t; exact h
set_option maxHeartbeats 1000000 in
theorem chain_ct {C C' : Cd} {vs vs' : List Value} {o : Nat} (hrun : CRun C vs (itsC o) C' vs') {v : Value} {h : Hp} (hok : CdOk C v h) (hl : C'.b.length ≤ 1099511627776) {c b T : Nat} :
  Ct prog 189 [.pointer (some ⟨c, 0, none⟩), .pointer (some ⟨b, o, none⟩)] [CBk c C v, [(b, .cells vs.toArray T (0, 0))], h] (CPost c b T C C' v h vs' []) := by
 obtain ⟨C1, vs1, r1, hrun⟩ := hrun.split
 obtain ⟨C2, vs2, r2, hrun⟩ := hrun.split
 obtain ⟨C3, vs3, r3, r4⟩ := hrun.split
 have l1 := r4.facts.2.1
 have l2 := Nat.le_trans r3.facts.2.1 l1
 have l3 := Nat.le_trans r2.facts.2.1 l2
 refine Ct.mk' func189 rfl rfl rfl (fun g R => ?_)
 try simp only [ca]
 simp only [na]
 try refine run ?_
 refine W.mix (List.replicate 7 true ++ [false, false]) ([] : HH) Tryz.mix (by kernel_rfl) ?_
 try refine run ?_
 refine I.bs ?_
 refine WX.lit (ys := [(⟨b, o⟩ : Pv), ⟨b, o + 1⟩]) rfl rfl rfl rfl rfl rfl (by decide) rfl (fun v1 h1 hs1 => ?_)
 try refine run ?_
 refine WX.call rfl (numbers_ct (c := c) (b := b) (T := T) (os := [o, o + 1]) r1 hok (Nat.le_trans l3 hl) hs1.rs (by simp)) rfl ?_
 rintro _ _ ⟨v2, h2, rfl, ok2, keep2⟩
 simp only [ca, na]
 try refine run ?_
 refine W.loop (α := Nat × Cd × List Value × Value × Hp) (fun x => x.1 ≤ 4 ∧ CRun x.2.1 x.2.2.1 ((itsM (o + 2)).drop (x.1 * 2)) C2 vs2 ∧ CdOk x.2.1 x.2.2.2.1 x.2.2.2.2 ∧ x.2.1.rd = C.rd ∧ (C.rd = true → x.2.2.2.1 = v ∧ x.2.2.2.2 = h))
  (fun x => [(0, .pointer (some ⟨c, 0, none⟩)), (1, .pointer (some ⟨b, o, none⟩)), (14, .int .i64 (x.1 : Int))])
  (fun x => [CBk c x.2.1 x.2.2.2.1, [(b, .cells x.2.2.1.toArray T (0, 0))], x.2.2.2.2, R]) (fun x => 4 - x.1) (0, C1, vs1, v2, h2) ⟨Nat.zero_le _, r2, ok2, r1.facts.1, keep2⟩ (by repeat (first | exact Fsub.nil | refine Fsub.cons rfl ?_)) (Hsub.of_picks inferInstance) ?_
 rintro ⟨k, Dk, ws, y, hy⟩ ⟨hk, hr, ok, hrd, hkeep⟩
 simp only [] at hk hr ok hrd hkeep ⊢
 by_cases hlt : k < 4
 ·rw [itsM_drop hlt] at hr
  obtain ⟨D1, ws1, q1, q2⟩ := hr.split
  try refine run ?_
  refine WX.as 22 (.pointer (some ⟨b, o + 2 + k * 2, none⟩)) rfl (by rw [Int.toNat_natCast]) ?_
  refine WX.call rfl (member_ct (c := c) (b := b) (T := T) q1 ok (Nat.le_trans q2.facts.2.1 (Nat.le_trans l2 hl))) rfl ?_
  rintro _ _ ⟨y', hy', rfl, ok', hk'⟩
  simp only [ca, na]
  try refine run ?_
  exact D.rd (k + 1, D1, ws1, y', hy') ⟨by omega, q2, ok', q1.facts.1.trans hrd, keep_trans hrd hkeep hk'⟩ (by simp only []; omega)
 ·obtain rfl : k = 4 := by omega
  have hz : (itsM (o + 2)).drop (4 * 2) = [] := rfl
  rw [hz] at hr
  cases hr
  try refine run ?_
  refine WX.call rfl (truth_ct (c := c) (b := b) (T := T) r3.one ok (Nat.le_trans l1 hl)) rfl ?_
  rintro _ _ ⟨v3, h3, rfl, ok3, keep3⟩
  simp only [ca, na]
  try refine run ?_
  refine WX.call rfl (member_ct (c := c) (b := b) (T := T) (o := o + 11) r4 ok3 hl) rfl ?_
  rintro _ _ ⟨v4, h4, rfl, ok4, keep4⟩
  simp only [ca, na]
  try refine run ?_
  exact D.finE _ _ rfl ⟨v4, h4, rfl, ok4, keep_trans (r3.facts.1.trans hrd) (keep_trans hrd hkeep keep3) keep4⟩
end Go.Proofs.YtejfahjgfedliaaGreat

namespace Go.Proofs.YtejfahjgfedliaaGreat
open Go Go.Sl Go.Proofs.Tryz
def itsW (o : Nat) : List It := [.num o, .num (o + 1), .num (o + 2), .num (o + 3), .num (o + 4), .num (o + 5)] ++ ([.txt (o + 6) 16] ++ ([.txt (o + 7) 32] ++ ([.tru (o + 8)] ++ (itsV (o + 9) ++ [.num (o + 18), .num (o + 19)]))))
set_option maxHeartbeats 1000000 in
theorem write_ct {C C' : Cd} {vs vs' : List Value} {o : Nat} (hrun : CRun C vs (itsW o) C' vs') {v : Value} {h : Hp} (hok : CdOk C v h) (hl : C'.b.length ≤ 1099511627776) {c b T : Nat} :
  Ct prog 188 [.pointer (some ⟨c, 0, none⟩), .pointer (some ⟨b, o, none⟩)] [CBk c C v, [(b, .cells vs.toArray T (0, 0))], h] (CPost c b T C C' v h vs' []) := by
 obtain ⟨C1, vs1, r1, hrun⟩ := hrun.split
 obtain ⟨C2, vs2, r2, hrun⟩ := hrun.split
 obtain ⟨C3, vs3, r3, hrun⟩ := hrun.split
 obtain ⟨C4, vs4, r4, hrun⟩ := hrun.split
 obtain ⟨C5, vs5, r5, r6⟩ := hrun.split
 have l5 := Nat.le_trans r6.facts.2.1 hl
 have l4 := Nat.le_trans r5.facts.2.1 l5
 have l3 := Nat.le_trans r4.facts.2.1 l4
 have l2 := Nat.le_trans r3.facts.2.1 l3
 have l1 := Nat.le_trans r2.facts.2.1 l2
 refine Ct.mk' func188 rfl rfl rfl (fun g R => ?_)
 try simp only [ca]
 simp only [na]
 try refine run ?_
 refine W.mix (List.replicate 25 true ++ [false, false]) ([] : HH) Tryz.mix (by kernel_rfl) ?_
 try refine run ?_
 refine I.bs ?_
 refine WX.lit (ys := [(⟨b, o⟩ : Pv), ⟨b, o + 1⟩, ⟨b, o + 2⟩, ⟨b, o + 3⟩, ⟨b, o + 4⟩, ⟨b, o + 5⟩]) rfl rfl rfl rfl rfl rfl (by decide) rfl (fun v1 h1 hs1 => ?_)
 try refine run ?_
 refine WX.call rfl (numbers_ct (c := c) (b := b) (T := T) (os := [o, o + 1, o + 2, o + 3, o + 4, o + 5]) r1 hok l1 hs1.rs (by simp)) rfl ?_
 rintro _ _ ⟨v2, h2, rfl, ok2, keep2⟩
 simp only [ca, na]
 try refine run ?_
 refine WX.call rfl (text_ct (c := c) (b := b) (T := T) (o := o + 6) (most := 16) r2.one ok2 l2) rfl ?_
 rintro _ _ ⟨v3, h3, rfl, ok3, keep3⟩
 simp only [ca, na]
 try refine run ?_
 refine WX.call rfl (text_ct (c := c) (b := b) (T := T) (o := o + 7) (most := 32) r3.one ok3 l3) rfl ?_
 rintro _ _ ⟨v4, h4, rfl, ok4, keep4⟩
 simp only [ca, na]
 try refine run ?_
 refine WX.call rfl (truth_ct (c := c) (b := b) (T := T) (o := o + 8) r4.one ok4 l4) rfl ?_
 rintro _ _ ⟨v5, h5, rfl, ok5, keep5⟩
 simp only [ca, na]
 try refine run ?_
 refine WX.call rfl (vector_ct (c := c) (b := b) (T := T) (o := o + 9) r5 ok5 l5) rfl ?_
 rintro _ _ ⟨v6, h6, rfl, ok6, keep6⟩
 simp only [ca, na]
 try refine run ?_
 refine W.mix (List.replicate 7 true ++ [false, false]) ([] : HH) Tryz.mix (by kernel_rfl) ?_
 try refine run ?_
 refine I.bs ?_
 refine WX.lit (ys := [(⟨b, o + 18⟩ : Pv), ⟨b, o + 19⟩]) rfl rfl rfl rfl rfl rfl (by decide) rfl (fun v7 h7 hs7 => ?_)
 try refine run ?_
 refine WX.call rfl (numbers_ct (c := c) (b := b) (T := T) (os := [o + 18, o + 19]) r6 ok6 hl hs7.rs (by simp)) rfl ?_
 rintro _ _ ⟨v8, h8, rfl, ok8, keep8⟩
 simp only [ca, na]
 try refine run ?_
 have e2 := r1.facts.1
 have e3 := r2.facts.1.trans e2
 have e4 := r3.facts.1.trans e3
 have e5 := r4.facts.1.trans e4
 have e6 := r5.facts.1.trans e5
 exact D.finE _ _ rfl ⟨v8, h8, rfl, ok8, keep_trans e6 (keep_trans e5 (keep_trans e4 (keep_trans e3 (keep_trans e2 keep2 keep3) keep4) keep5) keep6) keep8⟩
end Go.Proofs.YtejfahjgfedliaaGreat

namespace Go.Proofs.YtejfahjgfedliaaGreat
open Go Go.Sl Go.Proofs.Tryz List
def be32 (s : Nat) : List UInt8 := [UInt8.ofNat (s / 2 ^ 24), UInt8.ofNat (s / 2 ^ 16), UInt8.ofNat (s / 2 ^ 8), UInt8.ofNat s]
def frame (B : List UInt8) : List UInt8 := [UInt8.ofNat (B.length / 2 ^ 8), UInt8.ofNat B.length] ++ B ++ be32 (crcS B)
def frRes (C : Cd) : List UInt8 × Int := if C.arg = true then ([], 1) else if C.long = true then ([], 42) else (frame C.b, 0)
theorem u8_wrap (n : Nat) : IntKind.u8.wrap (n : Int) = ((UInt8.ofNat n).toNat : Int) := by
 rw [IntKind.wrap_u8', UInt8.toNat_ofNat']
 omega
set_option maxHeartbeats 1000000 in
theorem framed_ct {C : Cd} {v : Value} {h : Hp} (hs : IsSl 5 C.b v h) (hl : C.b.length ≤ 1099511627776) {c : Nat} :
  Ct prog 183 [.pointer (some ⟨c, 0, none⟩)] [CBk c C v, h] (fun r H' => ∃ u hb, r = .tuple #[u, .int .i64 (frRes C).2] ∧ H' = [CBk c C v, h, hb] ∧ IsSl 5 (frRes C).1 u hb) := by
 obtain ⟨B, p, rd, bad, arg, long⟩ := C
 simp only [] at hs hl
 have hr := hs.rs
 refine Ct.pack (pre := [CBr c v p rd bad arg long, h]) (post := fun r H' => ∃ u hb, r = .tuple #[u, .int .i64 (frRes ⟨B, p, rd, bad, arg, long⟩).2] ∧ H' = [CBr c v p rd bad arg long, h, hb] ∧ IsSl 5 (frRes ⟨B, p, rd, bad, arg, long⟩).1 u hb) ?_ rfl (fun r H' e => ⟨_, rfl, e⟩)
 refine Ct.mk' func183 rfl rfl rfl (fun g R => ?_)
 try simp only [ca]
 simp only [na]
 cases arg with
 | true =>
  try refine run ?_
  exact D.fin2 [CBr c v p rd bad true long, h, []] _ rfl rfl rfl ⟨_, _, rfl, rfl, IsSl.nil _⟩
 | false =>
 cases long with
 | true =>
  try refine run ?_
  exact D.fin2 [CBr c v p rd bad false true, h, []] _ rfl rfl rfl ⟨_, _, rfl, rfl, IsSl.nil _⟩
 | false =>
  obtain ⟨p1, l1, c1, rfl⟩ := hs.sh
  try refine run ?_
  refine W.mix (List.replicate 9 true ++ [false, false, true]) [CBr c (.slice p1 l1 c1) p rd bad false false, h] Tryz.mix (by kernel_rfl) ?_
  try refine run ?_
  refine I.bs ?_
  refine WX.lit (ys := [(⟨p1, l1, c1⟩ : Sv)]) rfl rfl rfl rfl rfl rfl (by decide) rfl (fun v1 h1 hs1 => ?_)
  try refine run ?_
  refine WX.callQ rfl (sum_ct hs1.rs hr hl) rfl ?_
  repeat' (first | refine run ?_ | refine WX.shrN (m := 8) rfl rfl (by decide) rfl ?_ | refine WX.convW rfl rfl ?_ | fail)
  refine WX.as 30 (.int .u8 ((UInt8.ofNat (B.length / 2 ^ 8)).toNat : Int)) rfl (by rw [u8_wrap]) ?_
  refine WX.as 32 (.int .u8 ((UInt8.ofNat B.length).toNat : Int)) rfl (by rw [u8_wrap]) ?_
  refine WX.lit (ys := [UInt8.ofNat (B.length / 2 ^ 8), UInt8.ofNat B.length]) rfl rfl rfl rfl rfl rfl (by decide) rfl (fun v2 h2 hs2 => ?_)
  try refine run ?_
  refine WX.app rfl rfl hs2 hr rfl rfl (by decide) (by simp only [length_cons, length_nil]; omega) rfl (fun v3 h3 hs3 => ?_)
  repeat' (first | refine run ?_ | refine WX.shrN (m := 24) rfl rfl (by decide) rfl ?_ | refine WX.shrN (m := 16) rfl rfl (by decide) rfl ?_ | refine WX.shrN (m := 8) rfl rfl (by decide) rfl ?_ | refine WX.convW rfl rfl ?_ | fail)
  refine WX.as 42 (.int .u8 ((UInt8.ofNat (crcS B / 2 ^ 24)).toNat : Int)) rfl (by rw [u8_wrap]) ?_
  refine WX.as 45 (.int .u8 ((UInt8.ofNat (crcS B / 2 ^ 16)).toNat : Int)) rfl (by rw [u8_wrap]) ?_
  refine WX.as 48 (.int .u8 ((UInt8.ofNat (crcS B / 2 ^ 8)).toNat : Int)) rfl (by rw [u8_wrap]) ?_
  refine WX.as 50 (.int .u8 ((UInt8.ofNat (crcS B)).toNat : Int)) rfl (by rw [u8_wrap]) ?_
  refine WX.lit (ys := be32 (crcS B)) rfl rfl rfl rfl rfl rfl (by decide) rfl (fun v4 h4 hs4 => ?_)
  refine WX.app rfl rfl hs3 hs4.rs rfl rfl (by decide) (by simp only [length_cons, length_nil, length_append, be32]; omega) rfl (fun v5 h5 hs5 => ?_)
  try refine run ?_
  exact D.fin2 [CBr c (.slice p1 l1 c1) p rd bad false false, h, h5] _ rfl rfl rfl ⟨_, _, rfl, rfl, hs5⟩
end Go.Proofs.YtejfahjgfedliaaGreat

namespace Go.Sl
open Go List
section
variable {g : World} {P : Program} {ops : Array Oper} {Q : Exit → Act → World → Prop} {n : Nat} {rest : List Oper} {L : Fm} {H : HH} {q : Bool}
variable {d : Nat} {ty : TypeId} {pos : String} {af : Array Edge} {x y : Operand} {t t' a b : Nat}
theorem i64_or_nat (a b : Nat) (ha : a < 4294967296) (hb : b < 4294967296) : bits .or .i64 (a : Int) (b : Int) = ((a ||| b : Nat) : Int) := by
 have hx : a ||| b < 2 ^ 32 := Nat.or_lt_two_pow (by omega) (by omega)
 have h1 : ∀ c : Nat, c < 4294967296 → (BitVec.ofInt 64 (c : Int)).toNat = c := fun c hc => by
  rw [BitVec.ofInt_natCast, BitVec.toNat_ofNat]; exact Nat.mod_eq_of_lt (by omega)
 show IntKind.i64.wrap ((BitVec.ofInt 64 (a : Int) ||| BitVec.ofInt 64 (b : Int)).toNat : Int) = _
 rw [BitVec.toNat_or, h1 a ha, h1 b hb]
 exact IntWalk.i64_in _ (by omega)
theorem WX.or64 (hx : ev L x = some (.int .i64 (a : Int))) (hy : ev L y = some (.int .i64 (b : Int))) (ha : a < 4294967296) (hb : b < 4294967296) (hd : Nat.blt d n = true)
  (k : WX q g P ops Q n rest ((d, .int .i64 ((a ||| b : Nat) : Int)) :: L) H) : WX q g P ops Q n (⟨some d, .binOp .or t x y t', ty, pos, af, none⟩ :: rest) L H :=
 WX.val (fun ac hac w _ => run_bin (hac.ev hx) (hac.ev hy) run_eqGuard_int (by
  have := i64_or_nat a b ha hb
  simp only [binOp, ne_eq, not_true_eq_false, if_false, intBits_or, this, Sem.run_pure])) hd k
end
end Go.Sl
namespace Go.Proofs.YtejfahjgfedliaaGreat
open Go Go.Sl Go.Proofs.Tryz List
theorem equal_ct {xs ys : List UInt8} {u v : Value} {hu hv : Hp} (h1 : Rs xs u hu) (h2 : Rs ys v hv) :
  Ct prog 145 [u, v] [hu, hv] (fun r H' => r = .bool (decide (xs = ys)) ∧ H' = [hu, hv]) := by
 refine Ct.mk' func145 rfl rfl rfl (fun g R => ?_)
 try simp only [ca]
 simp only [na]
 try refine run ?_
 exact D.fin1 [hu, hv] _ rfl rfl ⟨by simp only [strOf_inj], rfl⟩
theorem frame_len (B : List UInt8) : (frame B).length = B.length + 6 := by
 unfold frame be32
 simp only [length_append, length_cons, length_nil]; omega
theorem frame_0 (B : List UInt8) : (frame B)[0]? = some (UInt8.ofNat (B.length / 2 ^ 8)) := rfl
theorem frame_1 (B : List UInt8) : (frame B)[1]? = some (UInt8.ofNat B.length) := rfl
theorem frame_n {B : List UInt8} (h : B.length < 65536) : (UInt8.ofNat (B.length / 2 ^ 8)).toNat * 2 ^ 8 ||| (UInt8.ofNat B.length).toNat = B.length := by
 rw [byte_ofNat (by omega), UInt8.toNat_ofNat', Nat.mul_comm, ← Nat.two_pow_add_eq_or_of_lt (i := 8) (by omega)]
 omega
set_option maxHeartbeats 1000000 in
theorem body_short {B xs : List UInt8} (hB : B.length < 65536) {k : Nat} (hk : k < (frame B).length) (hx : xs = (frame B).take k) {v : Value} {h : Hp} (hr : Rs xs v h) :
  Ct prog 143 [v] [h] (fun r H' => r = .tuple #[.slice none 0 0, .int .i64 40] ∧ H' = [h]) := by
 have hxl : xs.length = k := by rw [hx, length_take]; omega
 rw [frame_len] at hk
 refine Ct.mk' func143 rfl rfl rfl (fun g R => ?_)
 try simp only [ca]
 simp only [na]
 by_cases h2 : xs.length < 2
 ·repeat' (first | refine run ?_ | refine W.scopeF 0 rfl ?_ | fail)
  exact D.fin2 [h] _ rfl rfl rfl ⟨rfl, rfl⟩
 ·obtain ⟨x0, hx0⟩ : ∃ x, xs[0]? = some x := ⟨_, List.getElem?_eq_getElem (by omega)⟩
  obtain ⟨x1, hx1⟩ : ∃ x, xs[1]? = some x := ⟨_, List.getElem?_eq_getElem (by omega)⟩
  have e0 : x0 = UInt8.ofNat (B.length / 2 ^ 8) := by
   rw [hx, List.getElem?_take_of_lt (by omega), frame_0] at hx0; exact (Option.some.inj hx0).symm
  have e1 : x1 = UInt8.ofNat B.length := by
   rw [hx, List.getElem?_take_of_lt (by omega), frame_1] at hx1; exact (Option.some.inj hx1).symm
  have hn := frame_n hB
  rw [← e0, ← e1] at hn
  have hb0 := byte_lt x0
  have hb1 := byte_lt x1
  repeat' (first | refine run ?_ | refine W.scopeF 0 rfl ?_ | fail)
  refine W.quiet Tryz.mix (by kernel_rfl) ?_
  repeat' (first | refine run ?_ | refine WX.conv rfl rfl (IntWalk.i64_in _ (by omega)) ?_ | refine WX.shlN (m := 8) rfl rfl (by decide) (IntWalk.i64_in _ (by omega)) rfl ?_ | refine WX.or64 rfl rfl (by omega) (by omega) rfl ?_ | fail)
  exact D.fin2 [h] _ rfl rfl rfl ⟨rfl, rfl⟩
theorem frame_B (B rest : List UInt8) : ((frame B ++ rest).drop 2).take (B.length + 2 - 2) = B := by
 show ((B ++ be32 (crcS B)) ++ rest).take (B.length + 2 - 2) = B
 rw [append_assoc, show B.length + 2 - 2 = B.length from by omega, take_left]
theorem frame_S (B rest : List UInt8) : ((frame B ++ rest).drop (B.length + 2)).take (B.length + 6 - (B.length + 2)) = be32 (crcS B) := by
 have : frame B ++ rest = ([UInt8.ofNat (B.length / 2 ^ 8), UInt8.ofNat B.length] ++ B) ++ (be32 (crcS B) ++ rest) := by unfold frame; simp
 rw [this, show B.length + 2 = ([UInt8.ofNat (B.length / 2 ^ 8), UInt8.ofNat B.length] ++ B).length from by simp, drop_left]
 have h4 : ([UInt8.ofNat (B.length / 2 ^ 8), UInt8.ofNat B.length] ++ B).length = B.length + 2 := by simp
 rw [h4, show B.length + 6 - (B.length + 2) = (be32 (crcS B)).length from by simp [be32], take_left]
set_option maxHeartbeats 1000000 in
theorem body_ok {B rest xs : List UInt8} (hB : B.length < 65536) (hx : xs = frame B ++ rest) {v : Value} {h : Hp} (hr : Rs xs v h) (hl : xs.length ≤ 1099511627776) :
  Ct prog 143 [v] [h] (fun r H' => ∃ u, r = .tuple #[u, .int .i64 0] ∧ H' = [h] ∧ Rs B u h) := by
 have hxl : xs.length = B.length + 6 + rest.length := by rw [hx, length_append, frame_len]
 obtain ⟨p, c, rfl⟩ := hr.len
 have hcap : xs.length ≤ c := by obtain ⟨a, cc, e, le, _⟩ := id hr; cases e; exact le
 have x0h : xs[0]? = some (UInt8.ofNat (B.length / 2 ^ 8)) := by rw [hx]; rfl
 have x1h : xs[1]? = some (UInt8.ofNat B.length) := by rw [hx]; rfl
 have hn := frame_n hB
 have hb0 := byte_lt (UInt8.ofNat (B.length / 2 ^ 8))
 have hb1 := byte_lt (UInt8.ofNat B.length)
 have hrB : Rs B (slCut (.slice p xs.length c) 1 2 (B.length + 2) c) h := by
  have := hr.cut (m := 1) (lo := 2) (hi := B.length + 2) (mx := c) rfl (by omega) (by omega) (by omega)
  rw [hx] at this
  rw [frame_B] at this
  rw [← hx] at this
  exact this
 have hrS : Rs (be32 (crcS B)) (slCut (.slice p xs.length c) 1 (B.length + 2) (B.length + 6) c) h := by
  have := hr.cut (m := 1) (lo := B.length + 2) (hi := B.length + 6) (mx := c) rfl (by omega) (by omega) (by omega)
  rw [hx] at this
  rw [frame_S] at this
  rw [← hx] at this
  exact this
 obtain ⟨q1, q2, q3, hq⟩ : ∃ q1 q2 q3, slCut (.slice p xs.length c) 1 2 (B.length + 2) c = .slice q1 q2 q3 := ⟨_, _, _, rfl⟩
 rw [hq] at hrB
 refine Ct.mk' func143 rfl rfl rfl (fun g R => ?_)
 try simp only [ca]
 simp only [na]
 repeat' (first | refine run ?_ | refine W.scopeF 0 rfl ?_ | fail)
 refine W.quiet Tryz.mix (by kernel_rfl) ?_
 repeat' (first | refine run ?_ | refine WX.conv rfl rfl (IntWalk.i64_in _ (by omega)) ?_ | refine WX.shlN (m := 8) rfl rfl (by decide) (IntWalk.i64_in _ (by omega)) rfl ?_ | (refine WX.or64 rfl rfl (by omega) (by omega) rfl ?_; rw [hn]) | fail)
 refine WX.as 27 (.int .i64 ((B.length + 2 : Nat) : Int)) rfl rfl ?_
 refine WX.cut2 (lo := 2) (hi := B.length + 2) rfl rfl rfl (by omega) (by omega) rfl ?_
 rw [hq]
 try refine run ?_
 refine I.bs ?_
 refine WX.lit (ys := [(⟨q1, q2, q3⟩ : Sv)]) rfl rfl rfl rfl rfl rfl (by decide) rfl (fun v1 h1 hs1 => ?_)
 skip
 refine WX.callQ rfl (sum_ct hs1.rs hrB (by omega)) rfl ?_
 try refine run ?_
 refine WX.as 34 (.int .i64 ((B.length + 2 : Nat) : Int)) rfl rfl ?_
 refine WX.as 36 (.int .i64 ((B.length + 6 : Nat) : Int)) rfl rfl ?_
 refine WX.cut2 (lo := B.length + 2) (hi := B.length + 6) rfl rfl rfl (by omega) (by omega) rfl ?_
 repeat' (first | refine run ?_ | refine WX.shrN (m := 24) rfl rfl (by decide) rfl ?_ | refine WX.shrN (m := 16) rfl rfl (by decide) rfl ?_ | refine WX.shrN (m := 8) rfl rfl (by decide) rfl ?_ | refine WX.convW rfl rfl ?_ | fail)
 refine WX.as 40 (.int .u8 ((UInt8.ofNat (crcS B / 2 ^ 24)).toNat : Int)) rfl (by rw [u8_wrap]) ?_
 refine WX.as 43 (.int .u8 ((UInt8.ofNat (crcS B / 2 ^ 16)).toNat : Int)) rfl (by rw [u8_wrap]) ?_
 refine WX.as 46 (.int .u8 ((UInt8.ofNat (crcS B / 2 ^ 8)).toNat : Int)) rfl (by rw [u8_wrap]) ?_
 refine WX.as 48 (.int .u8 ((UInt8.ofNat (crcS B)).toNat : Int)) rfl (by rw [u8_wrap]) ?_
 refine WX.lit (ys := be32 (crcS B)) rfl rfl rfl rfl rfl rfl (by decide) rfl (fun v4 h4 hs4 => ?_)
 refine WX.callQ rfl (equal_ct hrS hs4.rs) rfl ?_
 rw [decide_eq_true (rfl : be32 (crcS B) = be32 (crcS B))]
 try refine run ?_
 exact D.fin2 [h] _ rfl rfl rfl ⟨_, rfl, rfl, hrB⟩
end Go.Proofs.YtejfahjgfedliaaGreat

namespace Go.Proofs.YtejfahjgfedliaaGreat
open Go Go.Sl List
def wstep (vs : List Value) (C : Cd) (it : It) : Cd :=
 match vs[it.o]? with
 | some u => { C with b := C.b ++ (encI it u).getD [], arg := C.arg || (encI it u).isNone, long := C.long || longI it u }
 | none => C
def typedAt (vs : List Value) (it : It) : Prop := ∃ u, vs[it.o]? = some u ∧ okV it u
theorem wrun {vs : List Value} : ∀ {its : List It} {C : Cd}, C.rd = false → (∀ it ∈ its, typedAt vs it) → CRun C vs its (its.foldl (wstep vs) C) vs := by
 intro its
 induction its with
 | nil => intro C _ _; exact .nil
 | cons it r ih =>
  intro C hr ht
  obtain ⟨u, hu, ok⟩ := ht it (mem_cons_self ..)
  have hs := CSt.w (C := C) (it := it) hr hu ok
  have hw : wstep vs C it = { C with b := C.b ++ (encI it u).getD [], arg := C.arg || (encI it u).isNone, long := C.long || longI it u } := by unfold wstep; rw [hu]
  rw [← hw] at hs
  exact .cons hs (ih (hs.facts.1.trans hr) fun x hx => ht x (mem_cons_of_mem _ hx))
def encs2 (vs : List Value) (its : List It) : List UInt8 := (its.map fun it => ((vs[it.o]?).bind (encI it)).getD []).flatten
theorem wfold {vs : List Value} : ∀ {its : List It} {C : Cd}, (∀ it ∈ its, ∃ u e, vs[it.o]? = some u ∧ encI it u = some e ∧ longI it u = false) → its.foldl (wstep vs) C = { C with b := C.b ++ encs2 vs its } := by
 intro its
 induction its with
 | nil => intro C _; simp [encs2]
 | cons it r ih =>
  intro C h
  obtain ⟨u, e, h1, h2, h3⟩ := h it (mem_cons_self ..)
  have hw : wstep vs C it = { C with b := C.b ++ e } := by unfold wstep; rw [h1]; simp [h2, h3]
  rw [foldl_cons, hw, ih fun x hx => h x (mem_cons_of_mem _ hx)]
  simp [encs2, h1, h2]
def rset (vs : List Value) (ws : List Value) (it : It) : List Value := ws.set it.o ((vs[it.o]?).getD undef)
theorem rrun {vs : List Value} : ∀ {its : List It} {C : Cd} {ws : List Value} {rest : List UInt8}, C.rd = true → (∀ it ∈ its, ∃ u e, vs[it.o]? = some u ∧ okV it u ∧ encI it u = some e) → (its.map It.o).Nodup → (∀ it ∈ its, typedAt ws it) →
  C.b.drop C.p = encs2 vs its ++ rest → CRun C ws its { C with p := C.p + (encs2 vs its).length } (its.foldl (rset vs) ws) := by
 intro its
 induction its with
 | nil => intro C ws rest _ _ _ _ _; exact .nil
 | cons it r ih =>
  intro C ws rest hr h hn ht hd
  obtain ⟨u, e, h1, h2, h3⟩ := h it (mem_cons_self ..)
  obtain ⟨u0, t1, t2⟩ := ht it (mem_cons_self ..)
  have he : encs2 vs (it :: r) = e ++ encs2 vs r := by simp [encs2, h1, h3]
  rw [he, append_assoc] at hd
  have hs := CSt.r (C := C) hr t1 t2 h2 h3 hd
  rw [map_cons, nodup_cons] at hn
  have hd2 : C.b.drop (C.p + e.length) = encs2 vs r ++ rest := by rw [← drop_drop, hd, drop_left]
  have h5 := ih (C := { C with p := C.p + e.length }) (ws := ws.set it.o u) (rest := rest) hr (fun x hx => h x (mem_cons_of_mem _ hx)) hn.2 (fun x hx => by
   obtain ⟨u1, s1, s2⟩ := ht x (mem_cons_of_mem _ hx)
   refine ⟨u1, ?_, s2⟩
   have hne : it.o ≠ x.o := fun e => hn.1 (by rw [e]; exact mem_map.2 ⟨x, hx, rfl⟩)
   rw [List.getElem?_set_ne hne]
   exact s1) hd2
  have hset : rset vs ws it = ws.set it.o u := by unfold rset; rw [h1]; rfl
  rw [he, length_append, foldl_cons, hset, ← Nat.add_assoc]
  exact .cons hs h5
end Go.Proofs.YtejfahjgfedliaaGreat

namespace Go.Proofs.YtejfahjgfedliaaGreat
open Go Go.Sl
structure V9 where
 (a b c d e f g h i : Int)
 deriving DecidableEq
structure Ent where
 (dc rg sq ct sd sr : Int)
 (key val : ByteArray)
 dead : Bool
 dp : V9
 (cl op : Int)
 deriving DecidableEq
structure Mem where
 (nd sn : Int)
 deriving DecidableEq
structure Cfg where
 (ep n : Int)
 (f0 f1 f2 f3 : Mem)
 jo : Bool
 le : Mem
 deriving DecidableEq
structure Rec where
 k : Int
 e : Ent
 c : Cfg
 base : Int
 deriving DecidableEq
def V9.enc (v : V9) : List Value := [.int .i64 v.a, .int .i64 v.b, .int .i64 v.c, .int .i64 v.d, .int .i64 v.e, .int .i64 v.f, .int .i64 v.g, .int .i64 v.h, .int .i64 v.i]
def Ent.enc (e : Ent) : List Value := [.int .i64 e.dc, .int .i64 e.rg, .int .i64 e.sq, .int .i64 e.ct, .int .i64 e.sd, .int .i64 e.sr, .string e.key, .string e.val, .bool e.dead,
 .int .i64 e.dp.a, .int .i64 e.dp.b, .int .i64 e.dp.c, .int .i64 e.dp.d, .int .i64 e.dp.e, .int .i64 e.dp.f, .int .i64 e.dp.g, .int .i64 e.dp.h, .int .i64 e.dp.i, .int .i64 e.cl, .int .i64 e.op]
def Cfg.enc (c : Cfg) : List Value := [.int .i64 c.ep, .int .i64 c.n, .int .i64 c.f0.nd, .int .i64 c.f0.sn, .int .i64 c.f1.nd, .int .i64 c.f1.sn, .int .i64 c.f2.nd, .int .i64 c.f2.sn, .int .i64 c.f3.nd, .int .i64 c.f3.sn, .bool c.jo, .int .i64 c.le.nd, .int .i64 c.le.sn]
def Rec.enc (r : Rec) : List Value := .int .i64 r.k :: (r.e.enc ++ (r.c.enc ++ [.int .i64 r.base]))
instance : Enc Rec := ⟨35, Rec.enc, fun _ => rfl, fun _ => rfl, by decide⟩
def V9.z : V9 := ⟨0, 0, 0, 0, 0, 0, 0, 0, 0⟩
def Mem.z : Mem := ⟨0, 0⟩
def Ent.z : Ent := ⟨0, 0, 0, 0, 0, 0, ByteArray.empty, ByteArray.empty, false, V9.z, 0, 0⟩
def Cfg.z : Cfg := ⟨0, 0, Mem.z, Mem.z, Mem.z, Mem.z, false, Mem.z⟩
def Rec.z : Rec := ⟨0, Ent.z, Cfg.z, 0⟩
def Rec.bare (r : Rec) : Rec := if r.k = 1 then ⟨1, r.e, Cfg.z, 0⟩ else if r.k = 2 then ⟨2, Ent.z, r.c, r.base⟩ else ⟨r.k, Ent.z, Cfg.z, 0⟩
def Rec.its (k : Int) : List It := if k = 1 then [.num 0] ++ itsW 1 else if k = 2 then [.num 0] ++ (itsC 21 ++ [.num 34]) else [.num 0]
end Go.Proofs.YtejfahjgfedliaaGreat

namespace Go.Proofs.YtejfahjgfedliaaGreat
open Go Go.Sl List
def tyB : It → Value → Bool
 | .num _, .int .i64 _ => true
 | .txt _ _, .string _ => true
 | .tru _, .bool _ => true
 | _, _ => false
theorem tyB_ok {it : It} {u : Value} (h : tyB it u = true) : okV it u := by
 cases it <;> cases u <;> simp only [tyB, Bool.false_eq_true] at h
 case num.int o kd n => cases kd <;> simp only [tyB, Bool.false_eq_true] at h; exact ⟨n, rfl⟩
 case txt.string => exact ⟨_, rfl⟩
 case tru.bool => exact ⟨_, rfl⟩
def allTy (vs : List Value) (its : List It) : Bool := its.all fun it => match vs[it.o]? with
 | some u => tyB it u
 | none => false
theorem allTy_ok {vs : List Value} {its : List It} (h : allTy vs its = true) : ∀ it ∈ its, typedAt vs it := by
 intro it hit
 have := all_eq_true.1 h it hit
 cases hu : vs[it.o]? with
 | none => simp [hu] at this
 | some u => rw [hu] at this; exact ⟨u, hu ▸ rfl, tyB_ok this⟩
theorem Rec.typed (r : Rec) (k : Int) : ∀ it ∈ Rec.its k, typedAt r.enc it := by
 apply allTy_ok
 unfold Rec.its
 split
 ·rfl
 ·split
  ·rfl
  ·rfl
theorem Rec.nodup (k : Int) : ((Rec.its k).map It.o).Nodup := by
 unfold Rec.its
 split
 ·decide
 ·split
  ·decide
  ·decide
theorem rfold_get {vs : List Value} {j : Nat} : ∀ {its : List It} {ws : List Value}, (∀ it ∈ its, it.o < ws.length ∧ it.o < vs.length) → (its.foldl (rset vs) ws)[j]? = if j ∈ its.map It.o then vs[j]? else ws[j]? := by
 intro its
 induction its with
 | nil => intro ws _; simp
 | cons it r ih =>
  intro ws h
  have h0 := h it (mem_cons_self ..)
  rw [foldl_cons, ih (ws := rset vs ws it) (fun x hx => by
   have := h x (mem_cons_of_mem _ hx)
   unfold rset; rw [length_set]; exact this)]
  by_cases hj : j ∈ r.map It.o
  ·rw [if_pos hj, if_pos (by rw [map_cons]; exact mem_cons_of_mem _ hj)]
  ·rw [if_neg hj]
   by_cases he : j = it.o
   ·subst he
    rw [if_pos (by simp)]
    unfold rset
    rw [List.getElem?_set_self h0.1, List.getElem?_eq_getElem h0.2]
    rfl
   ·rw [if_neg (by rw [map_cons]; intro hc; exact (mem_cons.1 hc).elim he hj)]
    unfold rset
    rw [List.getElem?_set_ne (fun e => he e.symm)]
theorem Rec.lt (k : Int) : ∀ it ∈ Rec.its k, it.o < 35 := by
 have h : (Rec.its k).all (fun it => decide (it.o < 35)) = true := by
  unfold Rec.its
  split
  ·rfl
  ·split
   ·rfl
   ·rfl
 intro it hit
 exact of_decide_eq_true (all_eq_true.1 h it hit)
theorem Rec.reset (r : Rec) : (Rec.its r.k).foldl (rset r.enc) Rec.z.enc = r.bare.enc := by
 apply ext_getElem?
 intro j
 rw [rfold_get (vs := r.enc) (ws := Rec.z.enc) (its := Rec.its r.k) (fun it hit => (⟨Rec.lt _ it hit, Rec.lt _ it hit⟩ : it.o < 35 ∧ it.o < 35))]
 by_cases hj : j < 35
 ·obtain ⟨k, e, c, b⟩ := r
  unfold Rec.its Rec.bare
  by_cases h1 : k = 1
  ·simp only [h1, if_true]
   iterate 35 (rcases j with _ | j; · rfl)
   omega
  ·by_cases h2 : k = 2
   ·simp only [h2, if_true, show ¬ ((2 : Int) = 1) from by decide, if_false]
    iterate 35 (rcases j with _ | j; · rfl)
    omega
   ·simp only [h1, h2, if_false]
    iterate 35 (rcases j with _ | j; · rfl)
    omega
 ·have h1 : r.enc.length = 35 := rfl
  have h2 : r.bare.enc.length = 35 := rfl
  have h3 : Rec.z.enc.length = 35 := rfl
  rw [List.getElem?_eq_none (by omega), List.getElem?_eq_none (by omega), List.getElem?_eq_none (by omega)]
  simp
theorem Rec.enc_inj {r s : Rec} (h : r.enc = s.enc) : r = s := by
 obtain ⟨k, ⟨e1, e2, e3, e4, e5, e6, e7, e8, e9, ⟨d1, d2, d3, d4, d5, d6, d7, d8, d9⟩, e10, e11⟩, ⟨c1, c2, ⟨f1, f2⟩, ⟨f3, f4⟩, ⟨f5, f6⟩, ⟨f7, f8⟩, c3, ⟨f9, f10⟩⟩, b⟩ := r
 obtain ⟨k', ⟨e1', e2', e3', e4', e5', e6', e7', e8', e9', ⟨d1', d2', d3', d4', d5', d6', d7', d8', d9'⟩, e10', e11'⟩, ⟨c1', c2', ⟨f1', f2'⟩, ⟨f3', f4'⟩, ⟨f5', f6'⟩, ⟨f7', f8'⟩, c3', ⟨f9', f10'⟩⟩, b'⟩ := s
 simp only [Rec.enc, Ent.enc, Cfg.enc, cons_append, nil_append, List.cons.injEq, Value.int.injEq, Value.string.injEq, Value.bool.injEq, true_and, and_true] at h
 obtain ⟨rfl, rfl, rfl, rfl, rfl, rfl, rfl, rfl, rfl, rfl, rfl, rfl, rfl, rfl, rfl, rfl, rfl, rfl, rfl, rfl, rfl, rfl, rfl, rfl, rfl, rfl, rfl, rfl, rfl, rfl, rfl, rfl, rfl, rfl, rfl⟩ := h
 rfl
def ckB : CK → Value → Bool
 | .i, .int .i64 _ => true
 | .s, .string _ => true
 | .b, .bool _ => true
 | _, _ => false
def cksB : List CK → List Value → Bool
 | [], [] => true
 | k :: ks, x :: xs => ckB k x && cksB ks xs
 | _, _ => false
theorem cellEq_iff {k : CK} {x y : Value} (hx : ckB k x = true) (hy : ckB k y = true) : ∃ b, cellEq k x y = some b ∧ (b = true ↔ x = y) := by
 cases k <;> cases x <;> simp only [ckB, Bool.false_eq_true] at hx <;> cases y <;> simp only [ckB, Bool.false_eq_true] at hy
 case i.int.int kd n kd' n' =>
  cases kd <;> simp only [ckB, Bool.false_eq_true] at hx
  cases kd' <;> simp only [ckB, Bool.false_eq_true] at hy
  exact ⟨_, rfl, by simp⟩
 case s.string.string => exact ⟨_, rfl, by simp⟩
 case b.bool.bool => exact ⟨_, rfl, by simp⟩
theorem cellsEq_iff : ∀ {ks : List CK} {xs ys : List Value}, cksB ks xs = true → cksB ks ys = true → ∃ b, cellsEq ks xs ys = some b ∧ (b = true ↔ xs = ys) := by
 intro ks
 induction ks with
 | nil =>
  intro xs ys h1 h2
  cases xs <;> simp [cksB] at h1
  cases ys <;> simp [cksB] at h2
  exact ⟨true, rfl, by simp⟩
 | cons k r ih =>
  intro xs ys h1 h2
  cases xs with
  | nil => simp [cksB] at h1
  | cons x xs =>
  cases ys with
  | nil => simp [cksB] at h2
  | cons y ys =>
  simp only [cksB, Bool.and_eq_true] at h1 h2
  obtain ⟨b, e1, i1⟩ := cellEq_iff h1.1 h2.1
  obtain ⟨c, e2, i2⟩ := ih h1.2 h2.2
  exact ⟨b && c, by simp [cellsEq, e1, e2], by rw [Bool.and_eq_true, i1, i2, List.cons.injEq]⟩
def kEnt : List CK := [.i, .i, .i, .i, .i, .i, .s, .s, .b, .i, .i, .i, .i, .i, .i, .i, .i, .i, .i, .i]
def kCfg : List CK := [.i, .i, .i, .i, .i, .i, .i, .i, .i, .i, .b, .i, .i]
theorem rec_eq (r s : Rec) : cellsEq (.i :: (kEnt ++ (kCfg ++ [.i]))) r.enc s.enc = some (decide (r = s)) := by
 obtain ⟨b, e, i⟩ := cellsEq_iff (ks := .i :: (kEnt ++ (kCfg ++ [.i]))) (xs := r.enc) (ys := s.enc) rfl rfl
 rw [e]
 congr 1
 by_cases h : r = s
 ·rw [decide_eq_true h]; exact i.2 (by rw [h])
 ·rw [decide_eq_false h]
  cases b with
  | false => rfl
  | true => exact absurd (Rec.enc_inj (i.1 rfl)) h
end Go.Proofs.YtejfahjgfedliaaGreat

namespace Go.Sl
open Go List
theorem W.hp {g : World} {P : Program} {c : Code} {Q : Exit → Act → World → Prop} {n : Nat} {L : Fm} {H H' : HH} (e : H = H') (k : W g P c Q n L H') : W g P c Q n L H := e ▸ k
theorem WX.hp {q : Bool} {g : World} {P : Program} {ops : Array Oper} {Q : Exit → Act → World → Prop} {n : Nat} {rest : List Oper} {L : Fm} {H H' : HH} (e : H = H') (k : WX q g P ops Q n rest L H') : WX q g P ops Q n rest L H := e ▸ k
end Go.Sl
namespace Go.Proofs.YtejfahjgfedliaaGreat
open Go Go.Sl Go.Proofs.Tryz List
def Rec.known (r : Rec) : Bool := decide (r.k = 1 ∨ r.k = 2 ∨ r.k = 3)
def Cd.seen (C : Cd) (r : Rec) : Cd := { C with arg := (C.arg || !r.known) || !decide (r.bare = r) }
theorem CdOk.seen {C : Cd} {r : Rec} {v : Value} {h : Hp} (k : CdOk C v h) : CdOk (C.seen r) v h := ⟨k.r, k.w, k.l⟩
theorem CSt.get {C C' : Cd} {vs vs' : List Value} {it : It} (h : CSt C vs it C' vs') {j : Nat} (hj : j ≠ it.o) : vs'[j]? = vs[j]? := by
 cases h with
 | w hr hv ok => rfl
 | r hr hv ok0 ok he hd => exact List.getElem?_set_ne (fun e => hj e.symm)
theorem CRun.get {C C' : Cd} {vs vs' : List Value} {its : List It} (h : CRun C vs its C' vs') {j : Nat} (hj : ∀ it ∈ its, j ≠ it.o) : vs'[j]? = vs[j]? := by
 induction h with
 | nil => rfl
 | cons h t ih => exact (ih fun x hx => hj x (mem_cons_of_mem _ hx)).trans (h.get (hj _ (mem_cons_self ..)))
theorem ahead {its : List It} {j : Nat} (h : its.all (fun it => decide (j ≠ it.o)) = true) : ∀ it ∈ its, j ≠ it.o := fun it hit => of_decide_eq_true (all_eq_true.1 h it hit)
theorem Rec.cut_e (k : Int) (e : Ent) (c : Cfg) (b : Int) : ((Rec.enc ⟨k, e, c, b⟩).drop 1).take 20 = e.enc := rfl
theorem Rec.cut_c (k : Int) (e : Ent) (c : Cfg) (b : Int) : ((Rec.enc ⟨k, e, c, b⟩).drop 21).take 13 = c.enc := rfl
theorem Rec.put_e (k : Int) (e e' : Ent) (c : Cfg) (b : Int) : setAt (Rec.enc ⟨k, e, c, b⟩) 1 e'.enc = Rec.enc ⟨k, e', c, b⟩ := by
 have h1 : Rec.enc ⟨k, e, c, b⟩ = ([.int .i64 k] ++ e.enc) ++ (c.enc ++ [.int .i64 b]) := rfl
 rw [h1, setAt_append_left _ _ _ _ (Nat.le_refl 21), setAt_all e'.enc e.enc 1 [.int .i64 k] rfl rfl]
 rfl
theorem Rec.put_c (k : Int) (e : Ent) (c c' : Cfg) (b : Int) : setAt (Rec.enc ⟨k, e, c, b⟩) 21 c'.enc = Rec.enc ⟨k, e, c', b⟩ := by
 have h1 : Rec.enc ⟨k, e, c, b⟩ = (([.int .i64 k] ++ e.enc) ++ c.enc) ++ [.int .i64 b] := rfl
 rw [h1, setAt_append_left _ _ _ _ (Nat.le_refl 34), setAt_all c'.enc c.enc 21 ([Value.int .i64 k] ++ e.enc) rfl rfl]
 rfl
theorem Rec.put_k (k : Int) (e : Ent) (c : Cfg) (b k' : Int) : (Rec.enc ⟨k, e, c, b⟩).set 0 (.int .i64 k') = Rec.enc ⟨k', e, c, b⟩ := rfl
theorem Rec.put_b (k : Int) (e : Ent) (c : Cfg) (b b' : Int) : (Rec.enc ⟨k, e, c, b⟩).set 34 (.int .i64 b') = Rec.enc ⟨k, e, c, b'⟩ := rfl
theorem Rec.get_k (r : Rec) : r.enc[0]? = some (.int .i64 r.k) := rfl
theorem Rec.get_b (r : Rec) : r.enc[34]? = some (.int .i64 r.base) := rfl
theorem Rec.len35 (r : Rec) : r.enc.length = 35 := rfl
theorem Ent.len20 (e : Ent) : e.enc.length = 20 := rfl
theorem Cfg.len13 (e : Cfg) : e.enc.length = 13 := rfl
theorem Ent.one (e : Ent) : oneCells e.enc = true := rfl
theorem Cfg.one (e : Cfg) : oneCells e.enc = true := rfl
theorem Rec.one (e : Rec) : oneCells e.enc = true := rfl
set_option maxHeartbeats 1000000 in
theorem record_ct {C C1 : Cd} {r0 r : Rec} (hrun : CRun C r0.enc (Rec.its r.k) C1 r.enc) {v : Value} {h : Hp} (hok : CdOk C v h) (hl : C1.b.length ≤ 1099511627776) {c b : Nat} :
  Ct prog 144 [.pointer (some ⟨c, 0, none⟩), .pointer (some ⟨b, 0, none⟩)] [CBk c C v, [(b, .cells r0.enc.toArray 108 (0, 0))], h] (CPost c b 108 C (C1.seen r) v h r.enc []) := by
 obtain ⟨B1, p1, rd1, bad1, arg1, long1⟩ := C1
 obtain ⟨k, e, cf, bs⟩ := r
 simp only [] at hrun hl
 have hb0 : Rec.bare ⟨k, e, cf, bs⟩ = if k = 1 then ⟨1, e, Cfg.z, 0⟩ else if k = 2 then ⟨2, Ent.z, cf, bs⟩ else ⟨k, Ent.z, Cfg.z, 0⟩ := rfl
 by_cases h1 : k = 1
 ·subst h1
  have hs : Cd.seen ⟨B1, p1, rd1, bad1, arg1, long1⟩ ⟨1, e, cf, bs⟩ = ⟨B1, p1, rd1, bad1, arg1 || !decide (Rec.mk 1 e Cfg.z 0 = ⟨1, e, cf, bs⟩), long1⟩ := by
   unfold Cd.seen; rw [hb0, if_pos rfl]; simp [Rec.known]
  have hcmp := rec_eq ⟨1, e, Cfg.z, 0⟩ ⟨1, e, cf, bs⟩
  unfold Rec.its at hrun
  rw [if_pos rfl] at hrun
  obtain ⟨C0, vs1, q1, q2⟩ := hrun.split
  have hk1 : vs1[0]? = some (.int .i64 1) := by rw [← q2.get (ahead rfl)]; rfl
  have hl0 := Nat.le_trans q2.facts.2.1 hl
  have hrd0 := q1.facts.1
  refine Ct.mk' func144 rfl rfl rfl (fun g R => ?_)
  try simp only [ca]
  simp only [na]
  repeat' (first | refine run ?_ | refine al (fun _ => ?_) | fail)
  rename_i nb
  refine WX.hp (H' := [[(nb, .cells (Rec.enc ⟨r0.k, Ent.z, Cfg.z, 0⟩).toArray 108 (0, 0))], CBk c C v, [(b, .cells r0.enc.toArray 108 (0, 0))], h, R]) rfl ?_
  refine WX.call rfl (num_ct (c := c) (b := b) (T := 108) (o := 0) q1.one hok hl0) rfl ?_
  rintro _ _ ⟨v1, m1, rfl, ok1, keep1⟩
  simp only [ca, na]
  repeat' (first | refine run ?_ | refine WX.load rfl hk1 rfl ?_ | fail)
  refine WX.call rfl (write_ct (c := c) (b := b) (T := 108) (o := 1) q2 ok1 hl) rfl ?_
  rintro _ _ ⟨v2, m2, rfl, ok2, keep2⟩
  simp only [ca, na]
  repeat' (first | apply go | refine mv ?_ | refine nc ?_ | refine fa ?_ | fail)
  refine I.ld ?_
  refine WX.loadA (b := b) (i := 1) (cs := Rec.enc ⟨1, e, cf, bs⟩) (vs := e.enc) rfl (Rec.cut_e _ _ _ _) rfl rfl ?_
  refine I.fa ?_
  refine fa ?_
  refine I.st ?_
  refine WX.storeG (vs := e.enc) (b := nb) (i := 1) (cs := Rec.enc ⟨r0.k, Ent.z, Cfg.z, 0⟩) rfl rfl rfl (Ent.len20 _) (Ent.one _) rfl ?_
  rw [Rec.put_e]
  refine WX.nil ?_
  skip
  repeat' (first | apply go | refine mv ?_ | refine nc ?_ | refine fa ?_ | fail)
  refine I.ld ?_
  refine WX.load (v := .int .i64 1) (b := b) (i := 0) (cs := Rec.enc ⟨1, e, cf, bs⟩) rfl rfl rfl ?_
  refine I.fa ?_
  refine fa ?_
  refine I.st ?_
  refine WX.store (b := nb) (i := 0) (cs := Rec.enc ⟨r0.k, e, Cfg.z, 0⟩) rfl rfl rfl rfl ?_
  rw [Rec.put_k]
  refine WX.nil ?_
  skip
  skip
  repeat' (first | apply go | fail)
  refine W.mix (List.replicate 12 true) [CBr c v2 p1 rd1 bad1 arg1 long1, [(nb, .cells (Rec.enc ⟨1, e, Cfg.z, 0⟩).toArray 108 (0, 0))], [(b, .cells (Rec.enc ⟨1, e, cf, bs⟩).toArray 108 (0, 0))]] Tryz.mix (by kernel_rfl) ?_
  cases arg1 with
  | true =>
   try refine run ?_
   exact D.finE [CBr c v2 p1 rd1 bad1 true long1, [(b, .cells (Rec.enc ⟨1, e, cf, bs⟩).toArray 108 (0, 0))], m2] _ rfl ⟨v2, m2, by rw [hs] <;> rfl, ok2.seen, keep_trans hrd0 keep1 keep2⟩
  | false =>
   repeat' (first | refine WX.loadA (b := nb) (i := 0) (cs := Rec.enc ⟨1, e, Cfg.z, 0⟩) (vs := Rec.enc ⟨1, e, Cfg.z, 0⟩) rfl rfl rfl rfl ?_ | refine WX.loadA (b := b) (i := 0) (cs := Rec.enc ⟨1, e, cf, bs⟩) (vs := Rec.enc ⟨1, e, cf, bs⟩) rfl rfl rfl rfl ?_ | refine WX.neqA rfl rfl hcmp rfl ?_ | refine stp ?_ | fail)
   exact D.finE [CBr c v2 p1 rd1 bad1 (!decide ((⟨1, e, Cfg.z, 0⟩ : Rec) = ⟨1, e, cf, bs⟩)) long1, [(b, .cells (Rec.enc ⟨1, e, cf, bs⟩).toArray 108 (0, 0))], m2] _ rfl ⟨v2, m2, by rw [hs]; rfl, ok2.seen, keep_trans hrd0 keep1 keep2⟩
 by_cases h2 : k = 2
 ·subst h2
  have hs : Cd.seen ⟨B1, p1, rd1, bad1, arg1, long1⟩ ⟨2, e, cf, bs⟩ = ⟨B1, p1, rd1, bad1, arg1 || !decide (Rec.mk 2 Ent.z cf bs = ⟨2, e, cf, bs⟩), long1⟩ := by
   unfold Cd.seen; rw [hb0, if_neg h1, if_pos rfl]; simp [Rec.known]
  have hcmp := rec_eq ⟨2, Ent.z, cf, bs⟩ ⟨2, e, cf, bs⟩
  unfold Rec.its at hrun
  rw [if_neg h1, if_pos rfl] at hrun
  obtain ⟨C0, vs1, q1, hrun⟩ := hrun.split
  obtain ⟨C2, vs2, q2, q3⟩ := hrun.split
  have hk1 : vs1[0]? = some (.int .i64 2) := by rw [← q2.get (ahead rfl), ← q3.get (ahead rfl)]; rfl
  have hl2 := Nat.le_trans q3.facts.2.1 hl
  have hl0 := Nat.le_trans q2.facts.2.1 hl2
  have hrd0 := q1.facts.1
  have hrd2 := q2.facts.1.trans hrd0
  refine Ct.mk' func144 rfl rfl rfl (fun g R => ?_)
  try simp only [ca]
  simp only [na]
  repeat' (first | refine run ?_ | refine al (fun _ => ?_) | fail)
  rename_i nb
  refine WX.hp (H' := [[(nb, .cells (Rec.enc ⟨r0.k, Ent.z, Cfg.z, 0⟩).toArray 108 (0, 0))], CBk c C v, [(b, .cells r0.enc.toArray 108 (0, 0))], h, R]) rfl ?_
  refine WX.call rfl (num_ct (c := c) (b := b) (T := 108) (o := 0) q1.one hok hl0) rfl ?_
  rintro _ _ ⟨v1, m1, rfl, ok1, keep1⟩
  simp only [ca, na]
  repeat' (first | refine run ?_ | refine WX.load rfl hk1 rfl ?_ | fail)
  refine WX.call rfl (chain_ct (c := c) (b := b) (T := 108) (o := 21) q2 ok1 hl2) rfl ?_
  rintro _ _ ⟨v3, m3, rfl, ok3, keep3⟩
  simp only [ca, na]
  try refine run ?_
  refine WX.call rfl (num_ct (c := c) (b := b) (T := 108) (o := 34) q3.one ok3 hl) rfl ?_
  rintro _ _ ⟨v2, m2, rfl, ok2, keep2⟩
  simp only [ca, na]
  repeat' (first | apply go | fail)
  refine W.mix (List.replicate 9 true ++ [false]) [[(b, .cells (Rec.enc ⟨2, e, cf, bs⟩).toArray 108 (0, 0))]] Tryz.mix (by kernel_rfl) ?_
  repeat' (first | refine WX.loadA (b := b) (i := 21) (cs := Rec.enc ⟨2, e, cf, bs⟩) (vs := cf.enc) rfl (Rec.cut_c _ _ _ _) rfl rfl ?_ | refine WX.load (v := .int .i64 bs) (b := b) (i := 34) (cs := Rec.enc ⟨2, e, cf, bs⟩) rfl rfl rfl ?_ | (refine I.st ?_; refine WX.storeG (vs := cf.enc) (b := nb) (i := 21) (cs := Rec.enc ⟨r0.k, Ent.z, Cfg.z, 0⟩) rfl rfl rfl (Cfg.len13 _) (Cfg.one _) rfl ?_; rw [Rec.put_c]) | (refine I.st ?_; refine WX.store (v := .int .i64 bs) (b := nb) (i := 34) (cs := Rec.enc ⟨r0.k, Ent.z, cf, 0⟩) rfl rfl rfl rfl ?_; rw [Rec.put_b]; refine WX.nil ?_) | refine stp ?_ | fail)
  rw [Rec.put_k]
  skip
  skip
  skip
  refine W.mix (List.replicate 12 true) [CBr c v2 p1 rd1 bad1 arg1 long1, [(nb, .cells (Rec.enc ⟨2, Ent.z, cf, bs⟩).toArray 108 (0, 0))], [(b, .cells (Rec.enc ⟨2, e, cf, bs⟩).toArray 108 (0, 0))]] Tryz.mix (by kernel_rfl) ?_
  cases arg1 with
  | true =>
   try refine run ?_
   exact D.finE [CBr c v2 p1 rd1 bad1 true long1, [(b, .cells (Rec.enc ⟨2, e, cf, bs⟩).toArray 108 (0, 0))], m2] _ rfl ⟨v2, m2, by rw [hs] <;> rfl, ok2.seen, keep_trans hrd2 (keep_trans hrd0 keep1 keep3) keep2⟩
  | false =>
   repeat' (first | refine WX.loadA (b := nb) (i := 0) (cs := Rec.enc ⟨2, Ent.z, cf, bs⟩) (vs := Rec.enc ⟨2, Ent.z, cf, bs⟩) rfl rfl rfl rfl ?_ | refine WX.loadA (b := b) (i := 0) (cs := Rec.enc ⟨2, e, cf, bs⟩) (vs := Rec.enc ⟨2, e, cf, bs⟩) rfl rfl rfl rfl ?_ | refine WX.neqA rfl rfl hcmp rfl ?_ | refine stp ?_ | fail)
   exact D.finE [CBr c v2 p1 rd1 bad1 (!decide ((⟨2, Ent.z, cf, bs⟩ : Rec) = ⟨2, e, cf, bs⟩)) long1, [(b, .cells (Rec.enc ⟨2, e, cf, bs⟩).toArray 108 (0, 0))], m2] _ rfl ⟨v2, m2, by rw [hs]; rfl, ok2.seen, keep_trans hrd2 (keep_trans hrd0 keep1 keep3) keep2⟩
 have hi : Rec.its k = [.num 0] := by unfold Rec.its; rw [if_neg h1, if_neg h2]
 have hb1 : Rec.bare ⟨k, e, cf, bs⟩ = ⟨k, Ent.z, Cfg.z, 0⟩ := by rw [hb0, if_neg h1, if_neg h2]
 rw [hi] at hrun
 by_cases h3 : k = 3
 ·subst h3
  have hs : Cd.seen ⟨B1, p1, rd1, bad1, arg1, long1⟩ ⟨3, e, cf, bs⟩ = ⟨B1, p1, rd1, bad1, arg1 || !decide (Rec.mk 3 Ent.z Cfg.z 0 = ⟨3, e, cf, bs⟩), long1⟩ := by
   unfold Cd.seen; rw [hb1]; simp [Rec.known]
  have hcmp := rec_eq ⟨3, Ent.z, Cfg.z, 0⟩ ⟨3, e, cf, bs⟩
  refine Ct.mk' func144 rfl rfl rfl (fun g R => ?_)
  try simp only [ca]
  simp only [na]
  repeat' (first | refine run ?_ | refine al (fun _ => ?_) | fail)
  rename_i nb
  refine WX.hp (H' := [[(nb, .cells (Rec.enc ⟨r0.k, Ent.z, Cfg.z, 0⟩).toArray 108 (0, 0))], CBk c C v, [(b, .cells r0.enc.toArray 108 (0, 0))], h, R]) rfl ?_
  refine WX.call rfl (num_ct (c := c) (b := b) (T := 108) (o := 0) hrun.one hok hl) rfl ?_
  rintro _ _ ⟨v2, m2, rfl, ok2, keep2⟩
  simp only [ca, na]
  repeat' (first | refine WX.load (v := .int .i64 3) (b := b) (i := 0) (cs := Rec.enc ⟨3, e, cf, bs⟩) rfl rfl rfl ?_ | refine stp ?_ | fail)
  rw [Rec.put_k]
  skip
  skip
  skip
  refine W.mix (List.replicate 12 true) [CBr c v2 p1 rd1 bad1 arg1 long1, [(nb, .cells (Rec.enc ⟨3, Ent.z, Cfg.z, 0⟩).toArray 108 (0, 0))], [(b, .cells (Rec.enc ⟨3, e, cf, bs⟩).toArray 108 (0, 0))]] Tryz.mix (by kernel_rfl) ?_
  cases arg1 with
  | true =>
   try refine run ?_
   exact D.finE [CBr c v2 p1 rd1 bad1 true long1, [(b, .cells (Rec.enc ⟨3, e, cf, bs⟩).toArray 108 (0, 0))], m2] _ rfl ⟨v2, m2, by rw [hs] <;> rfl, ok2.seen, keep2⟩
  | false =>
   repeat' (first | refine WX.loadA (b := nb) (i := 0) (cs := Rec.enc ⟨3, Ent.z, Cfg.z, 0⟩) (vs := Rec.enc ⟨3, Ent.z, Cfg.z, 0⟩) rfl rfl rfl rfl ?_ | refine WX.loadA (b := b) (i := 0) (cs := Rec.enc ⟨3, e, cf, bs⟩) (vs := Rec.enc ⟨3, e, cf, bs⟩) rfl rfl rfl rfl ?_ | refine WX.neqA rfl rfl hcmp rfl ?_ | refine stp ?_ | fail)
   exact D.finE [CBr c v2 p1 rd1 bad1 (!decide ((⟨3, Ent.z, Cfg.z, 0⟩ : Rec) = ⟨3, e, cf, bs⟩)) long1, [(b, .cells (Rec.enc ⟨3, e, cf, bs⟩).toArray 108 (0, 0))], m2] _ rfl ⟨v2, m2, by rw [hs]; rfl, ok2.seen, keep2⟩
 ·have hs : Cd.seen ⟨B1, p1, rd1, bad1, arg1, long1⟩ ⟨k, e, cf, bs⟩ = ⟨B1, p1, rd1, bad1, true, long1⟩ := by
   unfold Cd.seen; simp [Rec.known, h1, h2, h3]
  refine Ct.mk' func144 rfl rfl rfl (fun g R => ?_)
  try simp only [ca]
  simp only [na]
  repeat' (first | refine run ?_ | refine al (fun _ => ?_) | fail)
  rename_i nb
  refine WX.hp (H' := [[(nb, .cells (Rec.enc ⟨r0.k, Ent.z, Cfg.z, 0⟩).toArray 108 (0, 0))], CBk c C v, [(b, .cells r0.enc.toArray 108 (0, 0))], h, R]) rfl ?_
  refine WX.call rfl (num_ct (c := c) (b := b) (T := 108) (o := 0) hrun.one hok hl) rfl ?_
  rintro _ _ ⟨v2, m2, rfl, ok2, keep2⟩
  simp only [ca, na]
  repeat' (first | refine WX.load (v := .int .i64 k) (b := b) (i := 0) (cs := Rec.enc ⟨k, e, cf, bs⟩) rfl rfl rfl ?_ | refine stp ?_ | fail)
  rw [Rec.put_k]
  skip
  skip
  refine W.mix (List.replicate 12 true) [CBr c v2 p1 rd1 bad1 true long1, [(nb, .cells (Rec.enc ⟨k, Ent.z, Cfg.z, 0⟩).toArray 108 (0, 0))], [(b, .cells (Rec.enc ⟨k, e, cf, bs⟩).toArray 108 (0, 0))]] Tryz.mix (by kernel_rfl) ?_
  try refine run ?_
  exact D.finE [CBr c v2 p1 rd1 bad1 true long1, [(b, .cells (Rec.enc ⟨k, e, cf, bs⟩).toArray 108 (0, 0))], m2] _ rfl ⟨v2, m2, by rw [hs] <;> rfl, ok2.seen, keep2⟩
end Go.Proofs.YtejfahjgfedliaaGreat

namespace Go.Proofs.YtejfahjgfedliaaGreat
open Go Go.Sl List
def Rec.w (r : Rec) : Cd := ((Rec.its r.k).foldl (wstep r.enc) {}).seen r
def Rec.code (r : Rec) : Int := (frRes r.w).2
def Rec.fr (r : Rec) : List UInt8 := (frRes r.w).1
def Rec.body (r : Rec) : List UInt8 := encs2 r.enc (Rec.its r.k)
def strLen : Value → Nat
 | .string s => s.data.toList.length
 | _ => 0
def wt (vs : List Value) : It → Nat
 | .txt o _ => ((vs[o]?).map strLen).getD 0
 | _ => 0
def tl (u : Value) : It → Nat
 | .txt _ _ => strLen u
 | _ => 0
theorem encI_len {it : It} {u : Value} (hs : strLen u ≤ 1073741824) : ((encI it u).getD []).length ≤ 9 + tl u it := by
 cases it <;> cases u <;> simp only [tl, encI, Option.getD_none, length_nil, Nat.zero_le]
 case num.int o kd n =>
  cases kd <;> simp only [encI, Option.getD_none, length_nil, Nat.zero_le]
  split
  ·simp
  ·have := encN_9 (n := n.toNat) (by omega)
   simp only [Option.getD_some]; omega
 case txt.string o m s =>
  have := encN_9 (n := s.data.toList.length) (by simp only [strLen] at hs; omega)
  simp only [strLen, Option.getD_some, length_append]; omega
 case tru.bool o t =>
  have := encN_9 (n := if t = true then 1 else 0) (by split <;> omega)
  simp only [Option.getD_some]; omega
theorem wfold_len {vs : List Value} : ∀ {its : List It} {C : Cd}, (∀ it ∈ its, typedAt vs it) → (∀ it ∈ its, wt vs it ≤ 1073741824) → (its.foldl (wstep vs) C).b.length ≤ C.b.length + 9 * its.length + (its.map (wt vs)).sum := by
 intro its
 induction its with
 | nil => intro C _ _; simp
 | cons it r ih =>
  intro C ht hw
  obtain ⟨u, hu, ok⟩ := ht it (mem_cons_self ..)
  have h1 := hw it (mem_cons_self ..)
  have h2 := ih (C := wstep vs C it) (fun x hx => ht x (mem_cons_of_mem _ hx)) (fun x hx => hw x (mem_cons_of_mem _ hx))
  have h3 : (wstep vs C it).b.length ≤ C.b.length + 9 + wt vs it := by
   have hs : strLen u ≤ 1073741824 := by
    cases it with
    | num o => obtain ⟨n, rfl⟩ := ok; simp [strLen]
    | tru o => obtain ⟨n, rfl⟩ := ok; simp [strLen]
    | txt o m => simp only [wt, It.o] at h1 hu; rw [hu] at h1; exact h1
   have h4 := encI_len (it := it) hs
   have h5 : tl u it = wt vs it := by
    cases it with
    | num o => rfl
    | tru o => rfl
    | txt o m => simp only [It.o] at hu; simp only [wt, hu]; rfl
   rw [h5] at h4
   unfold wstep
   rw [hu]
   simp only [length_append]
   omega
  simp only [foldl_cons, length_cons, map_cons, sum_cons]
  omega
theorem wfold_ok {vs : List Value} : ∀ {its : List It} {C : Cd}, (∀ it ∈ its, typedAt vs it) → (its.foldl (wstep vs) C).arg = false → (its.foldl (wstep vs) C).long = false →
  C.arg = false ∧ C.long = false ∧ ∀ it ∈ its, ∃ u e, vs[it.o]? = some u ∧ okV it u ∧ encI it u = some e ∧ longI it u = false := by
 intro its
 induction its with
 | nil => intro C _ h1 h2; exact ⟨h1, h2, by simp⟩
 | cons it r ih =>
  intro C ht h1 h2
  obtain ⟨u, hu, ok⟩ := ht it (mem_cons_self ..)
  obtain ⟨h3, h4, h5⟩ := ih (C := wstep vs C it) (fun x hx => ht x (mem_cons_of_mem _ hx)) h1 h2
  unfold wstep at h3 h4
  rw [hu] at h3 h4
  simp only [Bool.or_eq_false_iff] at h3 h4
  refine ⟨h3.1, h4.1, fun x hx => ?_⟩
  rcases mem_cons.1 hx with rfl | hx
  ·cases he : encI x u with
   | none => simp [he] at h3
   | some e => exact ⟨u, e, hu, ok, he, h4.2⟩
  ·exact h5 x hx
def Rec.size (r : Rec) : Nat := r.e.key.data.toList.length + r.e.val.data.toList.length
theorem Rec.wt_sum (r : Rec) : ((Rec.its r.k).map (wt r.enc)).sum ≤ r.size := by
 obtain ⟨k, e, c, b⟩ := r
 unfold Rec.its Rec.size
 by_cases h1 : k = 1
 ·simp only [h1, if_true]
  have : ([It.num 0] ++ itsW 1).map (wt (Rec.enc ⟨1, e, c, b⟩)) = [0, 0, 0, 0, 0, 0, 0, e.key.data.toList.length, e.val.data.toList.length, 0, 0, 0, 0, 0, 0, 0, 0, 0, 0, 0, 0] := rfl
  rw [this]; simp
 ·by_cases h2 : k = 2
  ·simp only [h2, if_true, show ¬ ((2 : Int) = 1) from by decide, if_false]
   have : ([It.num 0] ++ (itsC 21 ++ [It.num 34])).map (wt (Rec.enc ⟨2, e, c, b⟩)) = [0, 0, 0, 0, 0, 0, 0, 0, 0, 0, 0, 0, 0, 0, 0] := rfl
   rw [this]; simp
  ·simp only [h1, h2, if_false]
   have : [It.num 0].map (wt (Rec.enc ⟨k, e, c, b⟩)) = [0] := rfl
   rw [this]; simp
theorem sum_mem_le {l : List Nat} {x : Nat} (h : x ∈ l) : x ≤ l.sum := by
 induction l with
 | nil => cases h
 | cons y r ih =>
  rw [sum_cons]
  rcases mem_cons.1 h with rfl | h
  ·omega
  ·have := ih h; omega
theorem Rec.its_len (k : Int) : (Rec.its k).length ≤ 21 := by
 unfold Rec.its
 split
 ·exact Nat.le_refl _
 ·split
  ·decide
  ·decide
theorem Rec.w_len (r : Rec) (h : r.size ≤ 1073741824) : r.w.b.length ≤ 189 + r.size := by
 have h1 := wfold_len (vs := r.enc) (its := Rec.its r.k) (C := {}) (r.typed r.k) (fun it hit => by
  have := sum_mem_le (mem_map.2 ⟨it, hit, rfl⟩ : wt r.enc it ∈ (Rec.its r.k).map (wt r.enc))
  have := r.wt_sum
  omega)
 have h2 := r.wt_sum
 have h3 := Rec.its_len r.k
 have h4 : r.w.b.length = ((Rec.its r.k).foldl (wstep r.enc) {}).b.length := rfl
 have h5 : ({} : Cd).b.length = 0 := rfl
 omega
theorem Rec.wrun (r : Rec) : CRun {} r.enc (Rec.its r.k) ((Rec.its r.k).foldl (wstep r.enc) {}) r.enc := Go.Proofs.YtejfahjgfedliaaGreat.wrun rfl (r.typed r.k)
structure Rec.Good (r : Rec) : Prop where
 its : ∀ it ∈ Rec.its r.k, ∃ u e, r.enc[it.o]? = some u ∧ okV it u ∧ encI it u = some e ∧ longI it u = false
 bare : r.bare = r
 known : r.known = true
 w : r.w = { b := r.body }
 fr : r.fr = frame r.body
theorem Rec.good {r : Rec} (h : r.code = 0) : r.Good := by
 have h1 : r.w.arg = false := by
  cases ha : r.w.arg with
  | false => rfl
  | true => unfold Rec.code frRes at h; rw [if_pos ha] at h; exact absurd h (by decide)
 have h2 : r.w.long = false := by
  cases ha : r.w.long with
  | false => rfl
  | true => unfold Rec.code frRes at h; rw [if_neg (by rw [h1]; decide), if_pos ha] at h; exact absurd h (by decide)
 have h3 : r.w.arg = ((((Rec.its r.k).foldl (wstep r.enc) {}).arg || !r.known) || !decide (r.bare = r)) := rfl
 have h4 : r.w.long = ((Rec.its r.k).foldl (wstep r.enc) {}).long := rfl
 rw [h3] at h1
 simp only [Bool.or_eq_false_iff, Bool.not_eq_false', decide_eq_true_eq] at h1
 rw [h4] at h2
 obtain ⟨-, -, h5⟩ := wfold_ok (r.typed r.k) h1.1.1 h2
 have h6 := wfold (vs := r.enc) (its := Rec.its r.k) (C := {}) (fun it hit => by obtain ⟨u, e, a, b, c, d⟩ := h5 it hit; exact ⟨u, e, a, c, d⟩)
 have h7 : r.w = { b := r.body } := by
  unfold Rec.w Cd.seen
  rw [h6, h1.1.2, h1.2]
  simp [Rec.body]
 exact ⟨h5, h1.2, h1.1.2, h7, by unfold Rec.fr frRes; rw [h7]; rfl⟩
theorem Rec.Good.sz {r : Rec} (g : r.Good) : r.size ≤ 48 := by
 obtain ⟨k, e, c, b⟩ := r
 have hb := g.bare
 have hi := g.its
 unfold Rec.size
 by_cases h1 : k = 1
 ·subst h1
  unfold Rec.its at hi
  simp only [if_true] at hi
  obtain ⟨u, w, a1, a2, a3, a4⟩ := hi (.txt 7 16) (by simp [itsW])
  obtain ⟨u', w', b1, b2, b3, b4⟩ := hi (.txt 8 32) (by simp [itsW])
  cases (Option.some.inj a1 : Value.string e.key = u)
  cases (Option.some.inj b1 : Value.string e.val = u')
  simp only [longI, decide_eq_false_iff_not, Nat.not_lt] at a4 b4
  simp only []; omega
 ·have : e = Ent.z := by
   unfold Rec.bare at hb
   simp only [h1, if_false] at hb
   by_cases h2 : k = 2
   ·simp only [h2, if_true, Rec.mk.injEq] at hb; exact hb.2.1.symm
   ·simp only [h2, if_false, Rec.mk.injEq] at hb; exact hb.2.1.symm
  subst this
  show (0 : Nat) ≤ 48
  omega
theorem Rec.Good.len {r : Rec} (g : r.Good) : r.body.length ≤ 237 := by
 have hs : ((Rec.its r.k).map (wt r.enc)).sum ≤ 48 ∧ (∀ it ∈ Rec.its r.k, wt r.enc it ≤ 1073741824) := by
  have hx : ∀ it ∈ Rec.its r.k, wt r.enc it ≤ (match it with | .txt _ m => m | _ => 0) := by
   intro it hit
   obtain ⟨u, e, h1, h2, h3, h4⟩ := g.its it hit
   cases it with
   | num o => exact Nat.zero_le _
   | tru o => exact Nat.zero_le _
   | txt o m =>
    obtain ⟨s, rfl⟩ := h2
    simp only [longI, decide_eq_false_iff_not, Nat.not_lt] at h4
    simp only [It.o] at h1
    simp only [wt, h1]
    exact h4
  have hm : ((Rec.its r.k).map (fun it => match it with | It.txt _ m => m | _ => 0)).sum ≤ 48 := by
   unfold Rec.its
   split
   ·decide
   ·split
    ·decide
    ·decide
  have hsum : ∀ l : List It, (∀ it ∈ l, wt r.enc it ≤ (match it with | .txt _ m => m | _ => 0)) → (l.map (wt r.enc)).sum ≤ (l.map (fun it => match it with | It.txt _ m => m | _ => 0)).sum := by
   intro l
   induction l with
   | nil => intro _; simp
   | cons y t ih =>
    intro hl
    have h1 := hl y (mem_cons_self ..)
    have h2 := ih fun x hx => hl x (mem_cons_of_mem _ hx)
    simp only [map_cons, sum_cons]
    omega
  have h1 := hsum _ hx
  refine ⟨by omega, fun it hit => ?_⟩
  have := sum_mem_le (mem_map.2 ⟨it, hit, rfl⟩ : wt r.enc it ∈ (Rec.its r.k).map (wt r.enc))
  omega
 have h1 := wfold_len (vs := r.enc) (its := Rec.its r.k) (C := {}) (r.typed r.k) hs.2
 have h3 := Rec.its_len r.k
 have h4 : r.w.b.length = ((Rec.its r.k).foldl (wstep r.enc) {}).b.length := rfl
 have h5 : ({} : Cd).b.length = 0 := rfl
 have h6 : r.w.b = r.body := by rw [g.w]
 rw [h6] at h4
 omega
theorem Rec.Good.fr_len {r : Rec} (g : r.Good) : r.fr.length = r.body.length + 6 := by rw [g.fr, frame_len]
theorem Rec.Good.fr_le {r : Rec} (g : r.Good) : 6 ≤ r.fr.length ∧ r.fr.length ≤ 243 := by
 have := g.fr_len; have := g.len; omega
theorem Rec.Good.rrun {r : Rec} (g : r.Good) : CRun { b := r.body, rd := true } Rec.z.enc (Rec.its r.k) { b := r.body, p := r.body.length, rd := true } r.enc := by
 have h := Go.Proofs.YtejfahjgfedliaaGreat.rrun (vs := r.enc) (its := Rec.its r.k) (C := { b := r.body, rd := true }) (ws := Rec.z.enc) (rest := []) rfl (fun it hit => by obtain ⟨u, e, a, b, c, d⟩ := g.its it hit; exact ⟨u, e, a, b, c⟩) (Rec.nodup r.k) (Rec.typed Rec.z r.k) (by simp [Rec.body])
 rw [Rec.reset, g.bare] at h
 have h2 : (0 : Nat) + (encs2 r.enc (Rec.its r.k)).length = r.body.length := by rw [Nat.zero_add]; rfl
 simp only [h2] at h
 exact h
end Go.Proofs.YtejfahjgfedliaaGreat

namespace Go.Proofs.YtejfahjgfedliaaGreat
open Go Go.Sl Go.Proofs.Tryz List
set_option maxHeartbeats 1000000 in
theorem recordP_ct (r : Rec) (hz : r.size ≤ 1073741824) :
  Ct prog 138 [.agg r.enc.toArray] [] (fun res H' => ∃ u hb, res = .tuple #[u, .int .i64 r.code] ∧ H' = [hb] ∧ IsSl 5 r.fr u hb) := by
 have hlen := r.w_len hz
 refine Ct.mk' func138 rfl rfl rfl (fun g R => ?_)
 try simp only [ca]
 simp only [na]
 repeat' (first | refine run ?_ | refine bx rfl (fun _ => ?_) | fail)
 rename_i b c
 refine WX.hp (H' := [CBk c {} (.slice none 0 0), [(b, .cells r.enc.toArray 108 (0, 0))], R]) rfl ?_
 refine WX.nilH ?_
 refine WX.call rfl (record_ct (c := c) (b := b) r.wrun ⟨fun e => (by cases e), fun _ => IsSl.nil _, by decide⟩ (by show r.w.b.length ≤ _; omega)) rfl ?_
 rintro _ _ ⟨v1, h1, rfl, ok1, -⟩
 simp only [ca, na]
 rw [show (List.foldl (wstep r.enc) {} (Rec.its r.k)).seen r = r.w from rfl] at ok1 ⊢
 try refine run ?_
 refine WX.call rfl (framed_ct (c := c) (C := r.w) (ok1.w r.wrun.facts.1) (by omega)) rfl ?_
 rintro _ _ ⟨u, hb, rfl, rfl, hs⟩
 simp only [ca, na]
 try refine run ?_
 exact D.fin2 [hb] _ rfl rfl rfl ⟨_, _, rfl, rfl, hs⟩
set_option maxHeartbeats 1000000 in
theorem read_ok {r : Rec} (gd : r.Good) (hc : r.code = 0) {xs rest : List UInt8} (hx : xs = r.fr ++ rest) {v : Value} {h : Hp} (hr : Rs xs v h) (hl : xs.length ≤ 1099511627776) :
  Ct prog 90 [v] [h] (fun res H' => res = .tuple #[.agg r.enc.toArray, .int .i64 (r.fr.length : Int), .int .i64 0] ∧ H' = [h]) := by
 have hfl := gd.fr_len
 have hle := gd.fr_le
 have hxl : xs.length = r.fr.length + rest.length := by rw [hx, length_append]
 have hB := gd.len
 rw [gd.fr] at hx
 have hne : xs ≠ [] := by intro e; rw [e] at hxl; simp at hxl; omega
 refine Ct.mk' func90 rfl rfl rfl (fun g R => ?_)
 try simp only [ca]
 simp only [na]
 repeat' (first | refine run ?_ | refine al (fun _ => ?_) | refine W.scopeF 0 rfl ?_ | fail)
 refine WX.call rfl (body_ok (B := r.body) (by omega) hx hr hl) rfl ?_
 rintro _ _ ⟨u, rfl, rfl, hu⟩
 simp only [ca, na]
 obtain ⟨q1, c1, rfl⟩ := hu.len
 repeat' (first | refine run ?_ | refine bx rfl (fun _ => ?_) | refine al (fun _ => ?_) | fail)
 rename_i a2 b c
 refine WX.hp (H' := [CBk c { b := r.body, rd := true } (.slice q1 r.body.length c1), [(b, .cells Rec.z.enc.toArray 108 (0, 0))], h, [(a2, .cells Rec.z.enc.toArray 108 (0, 0))], R]) rfl ?_
 refine WX.call rfl (record_ct (c := c) (b := b) (r0 := Rec.z) gd.rrun ⟨fun _ => hu, fun e => (by cases e), by simp only []; omega⟩ (by simp only []; omega)) rfl ?_
 rintro _ _ ⟨v1, h1, rfl, ok1, keep1⟩
 obtain ⟨rfl, rfl⟩ := keep1 rfl
 have hseen : Cd.seen { b := r.body, p := r.body.length, rd := true } r = { b := r.body, p := r.body.length, rd := true } := by
  unfold Cd.seen; rw [gd.bare, gd.known]; simp
 rw [hseen] at ok1 ⊢
 simp only [ca, na]
 have hrp := recordP_ct r (by have := gd.sz; omega)
 rw [hc] at hrp
 repeat' (first | refine stp ?_ | fail)
 refine W.as 46 (.bool (decide ((r.body.length : Int) < (r.body.length : Int)))) rfl rfl ?_
 repeat' (first | refine WX.loadA (b := b) (i := 0) (cs := Rec.enc r) (vs := Rec.enc r) rfl rfl rfl rfl ?_ | refine stp ?_ | fail)
 refine WX.call rfl hrp rfl ?_
 rintro _ _ ⟨u2, h2, rfl, rfl, hs2⟩
 simp only [ca, na]
 have hr2 := hs2.rs
 try refine run ?_
 refine WX.as 59 (.int .i64 ((r.fr.length : Nat) : Int)) rfl (by rw [hfl]; rfl) ?_
 have hxt : r.fr = xs.take r.fr.length := by rw [hx, ← gd.fr, take_left]
 have heq := equal_ct hr2 (hr.take (m := r.fr.length) (by omega))
 rw [decide_eq_true hxt] at heq
 refine I.sl ?_
 refine WX.slTo rfl rfl hr (by omega) rfl ?_
 try refine run ?_
 refine WX.callQ rfl heq rfl ?_
 repeat' (first | refine WX.loadA (b := b) (i := 0) (cs := Rec.enc r) (vs := Rec.enc r) rfl rfl rfl rfl ?_ | refine stp ?_ | fail)
 exact D.finR [h1] _ rfl (.cellA rfl rfl (.tmp rfl (.tmp rfl .nil))) rfl ⟨rfl, rfl⟩
set_option maxHeartbeats 1000000 in
theorem read_short {r : Rec} (gd : r.Good) {xs : List UInt8} {k : Nat} (hk : k < r.fr.length) (hx : xs = r.fr.take k) (h0 : xs ≠ []) {v : Value} {h : Hp} (hr : Rs xs v h) :
  Ct prog 90 [v] [h] (fun res H' => res = .tuple #[.agg Rec.z.enc.toArray, .int .i64 0, .int .i64 40] ∧ H' = [h]) := by
 have hB := gd.len
 rw [gd.fr] at hx hk
 have hxl : 0 < xs.length := length_pos_iff.2 h0
 refine Ct.mk' func90 rfl rfl rfl (fun g R => ?_)
 try simp only [ca]
 simp only [na]
 repeat' (first | refine run ?_ | refine al (fun _ => ?_) | refine W.scopeF 0 rfl ?_ | fail)
 refine WX.call rfl (body_short (B := r.body) (by omega) hk hx hr) rfl ?_
 rintro _ _ ⟨rfl, rfl⟩
 simp only [ca, na]
 try refine run ?_
 rename_i a2
 exact D.finR [h] _ rfl (.cellA rfl rfl (.tmp rfl (.tmp rfl .nil))) rfl ⟨rfl, rfl⟩
end Go.Proofs.YtejfahjgfedliaaGreat

namespace Go.Proofs.YtejfahjgfedliaaGreat
open Go Go.Sl List
structure Lf where
 n : Int
 rs : List Rec
 k : Nat
def bytes (rs : List Rec) : List UInt8 := (rs.map Rec.fr).flatten
def Lf.file (f : Lf) : FileP := ⟨f.n, bytes f.rs, (bytes (f.rs.take f.k)).length⟩
def Lf.ps (f : Lf) : List Pc := (f.rs.drop f.k).map fun r => ⟨f.n, (r.fr.length : Int)⟩
def dk (l : List Lf) : DkS := ⟨l.map Lf.file, (l.map Lf.ps).flatten⟩
def lastN (l : List Lf) : Int := match l.getLast? with
 | some f => f.n
 | none => 0
structure LUp (l : List Lf) : Prop where
 up : l.Pairwise fun a b => a.n < b.n
 good : ∀ f ∈ l, ∀ r ∈ f.rs, r.code = 0
 k : ∀ f ∈ l, f.k ≤ f.rs.length
 lo : ∀ f ∈ l, 0 ≤ f.n
 hi : ∀ f ∈ l, f.n ≤ 1099511627776
 used : (dk l).used ≤ 1048576
 len : l.length ≤ 64
structure LOk (l : List Lf) : Prop extends LUp l where
 tail : l.Pairwise fun a b => a.k < a.rs.length → b.k = 0
instance {l : List Lf} : CoeOut (LOk l) (LUp l) := ⟨fun h => h.toLUp⟩
def recs (l : List Lf) : List Rec := (l.map Lf.rs).flatten
def sumK (l : List Lf) : Nat := (l.map Lf.k).sum
theorem bytes_nil : bytes [] = [] := rfl
theorem bytes_cons (r : Rec) (rs : List Rec) : bytes (r :: rs) = r.fr ++ bytes rs := rfl
theorem bytes_app (a b : List Rec) : bytes (a ++ b) = bytes a ++ bytes b := by unfold bytes; simp
theorem bytes_take_drop (rs : List Rec) (k : Nat) : bytes (rs.take k) ++ bytes (rs.drop k) = bytes rs := by rw [← bytes_app, take_append_drop]
theorem bytes_len (rs : List Rec) : (bytes rs).length = (rs.map fun r => r.fr.length).sum := by
 unfold bytes; rw [length_flatten, map_map]; rfl
theorem bytes_take_le (rs : List Rec) (k : Nat) : (bytes (rs.take k)).length ≤ (bytes rs).length := by
 rw [← bytes_take_drop rs k, length_append]; omega
theorem bytes_pos {rs : List Rec} (h : ∀ r ∈ rs, r.code = 0) (hne : rs ≠ []) : 6 ≤ (bytes rs).length := by
 cases rs with
 | nil => exact absurd rfl hne
 | cons r t =>
  have := (Rec.good (h r (mem_cons_self ..))).fr_le
  rw [bytes_cons, length_append]; omega
section
variable {l pre post : List Lf} {f : Lf}
theorem LUp.mid_ne (h : LUp (pre ++ f :: post)) : (∀ x ∈ pre, x.n < f.n) ∧ (∀ x ∈ post, f.n < x.n) := by
 have := h.up
 rw [pairwise_append, pairwise_cons] at this
 exact ⟨fun x hx => this.2.2 x hx f (mem_cons_self ..), this.2.1.1⟩
theorem dk_find_none {k : Int} (h : ∀ x ∈ l, x.n ≠ k) : (dk l).find k = none := by
 unfold DkS.find dk
 rw [List.find?_eq_none]
 intro x hx
 obtain ⟨f, hf, rfl⟩ := mem_map.1 hx
 have := h f hf
 intro hc
 exact this (of_decide_eq_true hc)
theorem dk_find (h : LUp (pre ++ f :: post)) : (dk (pre ++ f :: post)).find f.n = some f.file := by
 have hp : ((pre.map Lf.file).find? fun x => decide (x.n = f.n)) = none := by
  rw [List.find?_eq_none]
  intro x hx
  obtain ⟨y, hy, rfl⟩ := mem_map.1 hx
  have h1 := h.mid_ne.1 y hy
  intro hc
  have h2 : y.n = f.n := of_decide_eq_true hc
  omega
 unfold DkS.find dk
 simp only [map_append, map_cons, List.find?_append, hp, Option.none_or]
 rw [List.find?_cons_of_pos (by simp [Lf.file])]
theorem sortL_sorted {xs : List Int} (h : xs.Pairwise (fun a b => a ≤ b)) : sortL xs = xs := by
 unfold sortL
 exact mergeSort_of_pairwise (by simpa using h)
theorem dk_names (h : LUp l) : (dk l).names = l.map (·.n) := by
 unfold DkS.names dk
 simp only [map_map]
 have : (l.map ((fun x : FileP => x.n) ∘ Lf.file)) = l.map (·.n) := rfl
 rw [this]
 exact sortL_sorted (pairwise_map.2 (h.up.imp fun hlt => by omega))
theorem dk_used : (dk l).used = (l.map fun f => (bytes f.rs).length).sum := by
 unfold DkS.used dk
 simp only [map_map]
 rfl
theorem bytes_count {rs : List Rec} (h : ∀ r ∈ rs, r.code = 0) : 6 * rs.length ≤ (bytes rs).length := by
 induction rs with
 | nil => simp [bytes]
 | cons r t ih =>
  have h1 := (Rec.good (h r (mem_cons_self ..))).fr_le
  have h2 := ih fun x hx => h x (mem_cons_of_mem _ hx)
  rw [bytes_cons, length_append, length_cons]; omega
theorem ps_len : f.ps.length = f.rs.length - f.k := by unfold Lf.ps; simp
theorem loose_le : (∀ f ∈ l, ∀ r ∈ f.rs, r.code = 0) → (dk l).loose.length ≤ (dk l).used := by
 rw [dk_used]
 unfold dk
 simp only []
 induction l with
 | nil => intro _; simp
 | cons f t ih =>
  intro h
  have h1 := bytes_count (h f (mem_cons_self ..))
  have h2 := ih fun x hx => h x (mem_cons_of_mem _ hx)
  simp only [map_cons, flatten_cons, length_append, sum_cons, ps_len]
  omega
theorem LUp.loose (h : LUp l) : (dk l).loose.length ≤ 1099511627776 := by
 have := loose_le h.good; have := h.used; omega
theorem LUp.fs_len (h : LUp l) : (dk l).fs.length = l.length := length_map _
theorem LOk.app {x : Lf} (h : LOk l) (hn : ∀ f ∈ l, f.n < x.n) (hg : ∀ r ∈ x.rs, r.code = 0) (hk : x.k = 0) (h0 : 0 ≤ x.n) (h1 : x.n ≤ 1099511627776) (hl : l.length < 64) (hu : (dk l).used + (bytes x.rs).length ≤ 1048576) : LOk (l ++ [x]) where
 up := pairwise_append.2 ⟨h.up, pairwise_singleton .., fun a ha b hb => by rw [mem_singleton.1 hb]; exact hn a ha⟩
 good := fun f hf => by
  rcases mem_append.1 hf with hf | hf
  ·exact h.good f hf
  ·rw [mem_singleton.1 hf]; exact hg
 k := fun f hf => by
  rcases mem_append.1 hf with hf | hf
  ·exact h.k f hf
  ·rw [mem_singleton.1 hf, hk]; exact Nat.zero_le _
 tail := pairwise_append.2 ⟨h.tail, pairwise_singleton .., fun a ha b hb _ => by rw [mem_singleton.1 hb]; exact hk⟩
 lo := fun f hf => by
  rcases mem_append.1 hf with hf | hf
  ·exact h.lo f hf
  ·rw [mem_singleton.1 hf]; exact h0
 hi := fun f hf => by
  rcases mem_append.1 hf with hf | hf
  ·exact h.hi f hf
  ·rw [mem_singleton.1 hf]; exact h1
 used := by rw [dk_used] at hu ⊢; simpa using hu
 len := by rw [length_append]; simp; omega
theorem LOk.ini (h : LOk (pre ++ post)) : LOk pre where
 up := (pairwise_append.1 h.up).1
 good := fun f hf => h.good f (mem_append_left _ hf)
 k := fun f hf => h.k f (mem_append_left _ hf)
 tail := (pairwise_append.1 h.tail).1
 lo := fun f hf => h.lo f (mem_append_left _ hf)
 hi := fun f hf => h.hi f (mem_append_left _ hf)
 used := by have := h.used; rw [dk_used] at this ⊢; simp only [map_append, sum_append] at this; omega
 len := by have := h.len; rw [length_append] at this; omega
theorem LOk.more {r : Rec} (h : LOk (pre ++ [f])) (hr : r.code = 0) (hu : (dk (pre ++ [f])).used + r.fr.length ≤ 1048576) : LOk (pre ++ [⟨f.n, f.rs ++ [r], f.k⟩]) where
 up := by
  have := h.up
  rw [pairwise_append] at this ⊢
  exact ⟨this.1, pairwise_singleton .., fun a ha b hb => by rw [mem_singleton.1 hb]; exact this.2.2 a ha f (mem_singleton.2 rfl)⟩
 good := fun x hx => by
  rcases mem_append.1 hx with hx | hx
  ·exact h.good x (mem_append_left _ hx)
  ·rw [mem_singleton.1 hx]
   intro y hy
   rcases mem_append.1 hy with hy | hy
   ·exact h.good f (by simp) y hy
   ·rw [mem_singleton.1 hy]; exact hr
 k := fun x hx => by
  rcases mem_append.1 hx with hx | hx
  ·exact h.k x (mem_append_left _ hx)
  ·rw [mem_singleton.1 hx]
   have := h.k f (by simp)
   simp only [length_append]; omega
 tail := by
  have := h.tail
  rw [pairwise_append] at this ⊢
  exact ⟨this.1, pairwise_singleton .., fun a ha b hb => by rw [mem_singleton.1 hb]; exact this.2.2 a ha f (mem_singleton.2 rfl)⟩
 lo := fun x hx => by
  rcases mem_append.1 hx with hx | hx
  ·exact h.lo x (mem_append_left _ hx)
  ·rw [mem_singleton.1 hx]; exact h.lo f (by simp)
 hi := fun x hx => by
  rcases mem_append.1 hx with hx | hx
  ·exact h.hi x (mem_append_left _ hx)
  ·rw [mem_singleton.1 hx]; exact h.hi f (by simp)
 used := by
  rw [dk_used] at hu ⊢
  simp only [map_append, sum_append, map_cons, map_nil, sum_cons, sum_nil, bytes_app, length_append, bytes_cons, bytes_nil, length_nil] at hu ⊢
  omega
 len := by have := h.len; rw [length_append] at this ⊢; exact this
def ladd1 (l : List Lf) (r : Rec) : List Lf × Int :=
 if r.code ≠ 0 then (l, r.code) else match l.getLast? with
  | none => ([⟨0, [r], 0⟩], 0)
  | some f => if 4096 ≤ (bytes f.rs).length then (if 1099511627776 < f.n + 1 ∨ 64 ≤ l.length ∨ 1048576 < (dk l).used + r.fr.length then (l, 51) else (l ++ [⟨f.n + 1, [r], 0⟩], 0))
   else if 1048576 < (dk l).used + r.fr.length then (l, 51) else (l.dropLast ++ [⟨f.n, f.rs ++ [r], f.k⟩], 0)
def ladd (l : List Lf) : List Rec → List Lf × Int
 | [] => (l, 0)
 | r :: rs => if (ladd1 l r).2 ≠ 0 then ladd1 l r else ladd (ladd1 l r).1 rs
theorem used_nil : (dk []).used = 0 := rfl
theorem lastN_nil : lastN [] = 0 := rfl
theorem lastN_app : lastN (pre ++ [f]) = f.n := by unfold lastN; rw [List.getLast?_concat]
theorem LOk.nil : LOk [] := ⟨⟨.nil, by simp, by simp, by simp, by simp, by rw [used_nil]; omega, by simp⟩, .nil⟩
theorem LOk.add1 (h : LOk l) (r : Rec) : LOk (ladd1 l r).1 := by
 unfold ladd1
 by_cases hr : r.code = 0
 ·rw [if_neg (by simpa using hr)]
  have hle := (Rec.good hr).fr_le
  rcases eq_nil_or_concat l with rfl | ⟨pre, f, rfl⟩
  ·exact LOk.app (l := []) LOk.nil (by simp) (by simpa using hr) rfl (Int.le_refl 0) (by simp only []; omega) (by decide) (by rw [used_nil]; simp [bytes]; omega)
  ·rw [concat_eq_append] at h ⊢
   rw [List.getLast?_concat]
   simp only [dropLast_concat]
   split
   ·split
    ·exact h
    ·rename_i h2
     simp only [not_or, Int.not_lt, Nat.not_le, Nat.not_lt] at h2
     refine LOk.app h (fun x hx => ?_) (by simpa using hr) rfl (by have := h.lo f (by simp); simp only []; omega) (by simp only []; omega) h2.2.1 (by simp [bytes]; omega)
     rcases mem_append.1 hx with hx | hx
     ·have := h.mid_ne.1 x hx; simp only []; omega
     ·rw [mem_singleton.1 hx]; simp only []; omega
   ·split
    ·exact h
    ·exact h.more hr (by omega)
 ·rw [if_pos hr]; exact h
theorem size_last (h : LOk l) : (dk l).size (lastN l) = match l.getLast? with | some f => (bytes f.rs).length | none => 0 := by
 rcases eq_nil_or_concat l with rfl | ⟨pre, f, rfl⟩
 ·rfl
 ·rw [concat_eq_append] at h ⊢
  rw [lastN_app, List.getLast?_concat]
  unfold DkS.size
  rw [dk_find (post := []) h]
  rfl
theorem find_next {n : Int} (h : LOk l) (hn : lastN l < n) : (dk l).find n = none := by
 rcases eq_nil_or_concat l with rfl | ⟨pre, f, rfl⟩
 ·rfl
 ·rw [concat_eq_append] at h hn ⊢
  rw [lastN_app] at hn
  refine dk_find_none fun x hx => ?_
  rcases mem_append.1 hx with hx | hx
  ·have := h.mid_ne.1 x hx; omega
  ·rw [mem_singleton.1 hx]; omega
theorem dk_app_new {n : Int} {r : Rec} (he : (dk l).appE n r.fr.length = 0) (hf : (dk l).find n = none) : (dk l).app n r.fr = dk (l ++ [⟨n, [r], 0⟩]) := by
 unfold DkS.app
 rw [if_pos he, hf]
 simp [dk, Lf.file, Lf.ps, bytes]
theorem dk_app_old {r : Rec} (h : LOk (pre ++ [f])) (he : (dk (pre ++ [f])).appE f.n r.fr.length = 0) : (dk (pre ++ [f])).app f.n r.fr = dk (pre ++ [⟨f.n, f.rs ++ [r], f.k⟩]) := by
 unfold DkS.app
 rw [if_pos he, dk_find (post := []) h]
 have hk := h.k f (by simp)
 have hp : (pre.map Lf.file).map (fun x => if x.n = f.n then { x with b := x.b ++ r.fr } else x) = pre.map Lf.file := by
  rw [map_map]
  apply map_congr_left
  intro x hx
  have := h.mid_ne.1 x hx
  show (if x.file.n = f.n then _ else _) = _
  exact if_neg (by show ¬ x.n = f.n; omega)
 simp only [Option.isNone_some, Bool.false_eq_true, if_false]
 unfold DkS.onF
 simp only [dk, map_append, map_cons, map_nil, hp, Lf.file, if_true, flatten_append, flatten_cons, flatten_nil, append_nil, Lf.ps, bytes_app, bytes_cons, bytes_nil, take_append_of_le_length hk, drop_append_of_le_length hk, append_assoc]
end
end Go.Proofs.YtejfahjgfedliaaGreat

namespace Go.Proofs.YtejfahjgfedliaaGreat
open Go Go.Sl Go.Proofs.Tryz List
def toN (l : List Lf) : Int := if 4096 ≤ (dk l).size (lastN l) then lastN l + 1 else lastN l
theorem appE_len (k : Int) (n : Nat) (l : List Lf) : (dk l).appE k n = if k < 0 ∨ 1099511627776 < k then 50 else if (((dk l).find k).isNone = true ∧ 64 ≤ l.length) ∨ 1048576 < (dk l).used + n then 51 else 0 := by
 unfold DkS.appE; rw [show (dk l).fs.length = l.length from length_map _]
theorem ladd1_bad {l : List Lf} {r : Rec} (h : r.code ≠ 0) : ladd1 l r = (l, r.code) := by unfold ladd1; rw [if_pos h]
theorem lastN_range {l : List Lf} (ok : LOk l) : 0 ≤ lastN l ∧ lastN l ≤ 1099511627776 := by
 rcases eq_nil_or_concat l with rfl | ⟨pre, f, rfl⟩
 ·rw [lastN_nil]; omega
 ·rw [concat_eq_append] at ok ⊢
  rw [lastN_app]
  exact ⟨ok.lo f (by simp), ok.hi f (by simp)⟩
theorem ladd1_good {l : List Lf} (ok : LOk l) {r : Rec} (hr : r.code = 0) :
  ((dk l).appE (toN l) r.fr.length ≠ 0 → ladd1 l r = (l, 51)) ∧ ((dk l).appE (toN l) r.fr.length = 0 → (ladd1 l r).2 = 0 ∧ (dk l).app (toN l) r.fr = dk (ladd1 l r).1 ∧ lastN (ladd1 l r).1 = toN l) := by
 have hle := (Rec.good hr).fr_le
 unfold ladd1
 rw [if_neg (by simpa using hr)]
 rcases eq_nil_or_concat l with rfl | ⟨pre, f, rfl⟩
 ·have ht : toN [] = 0 := rfl
  have he : (dk []).appE 0 r.fr.length = 0 := by
   rw [appE_len, if_neg (by omega), if_neg]
   rw [used_nil]; simp; omega
  rw [ht]
  refine ⟨fun h => absurd he h, fun _ => ⟨rfl, ?_, rfl⟩⟩
  exact dk_app_new he rfl
 ·rw [concat_eq_append] at ok ⊢
  have hs := size_last ok
  have hlo := ok.lo f (by simp)
  have hhi := ok.hi f (by simp)
  rw [List.getLast?_concat] at hs ⊢
  simp only [dropLast_concat] at hs ⊢
  by_cases h4 : 4096 ≤ (bytes f.rs).length
  ·have ht : toN (pre ++ [f]) = f.n + 1 := by unfold toN; rw [hs, if_pos h4, lastN_app]
   have hn := find_next ok (n := f.n + 1) (by rw [lastN_app]; omega)
   rw [ht, if_pos h4]
   by_cases hc : 1099511627776 < f.n + 1 ∨ 64 ≤ (pre ++ [f]).length ∨ 1048576 < (dk (pre ++ [f])).used + r.fr.length
   ·rw [if_pos hc]
    refine ⟨fun _ => rfl, fun he => ?_⟩
    rw [appE_len, hn] at he
    simp only [Option.isNone_none, true_and] at he
    split at he
    ·exact absurd he (by decide)
    ·split at he
     ·exact absurd he (by decide)
     ·rename_i h1 h2; exfalso; rcases hc with hc | hc | hc
      ·exact h1 (.inr hc)
      ·exact h2 (.inl hc)
      ·exact h2 (.inr hc)
   ·rw [if_neg hc]
    have he : (dk (pre ++ [f])).appE (f.n + 1) r.fr.length = 0 := by
     rw [appE_len, hn, if_neg (fun h => h.elim (fun h => by omega) (fun h => hc (.inl h))), if_neg]
     simp only [Option.isNone_none, true_and]
     exact fun h => hc (.inr h)
    refine ⟨fun h => absurd he h, fun _ => ⟨rfl, dk_app_new he hn, lastN_app⟩⟩
  ·have ht : toN (pre ++ [f]) = f.n := by unfold toN; rw [hs, if_neg h4, lastN_app]
   have hn := dk_find (post := []) ok.toLUp
   rw [ht, if_neg h4]
   by_cases hc : 1048576 < (dk (pre ++ [f])).used + r.fr.length
   ·rw [if_pos hc]
    refine ⟨fun _ => rfl, fun he => ?_⟩
    rw [appE_len, hn, if_neg (by omega), if_pos (.inr hc)] at he
    exact absurd he (by decide)
   ·rw [if_neg hc]
    have he : (dk (pre ++ [f])).appE f.n r.fr.length = 0 := by
     rw [appE_len, hn, if_neg (by omega), if_neg]
     simp only [Option.isNone_some, Bool.false_eq_true, false_and, false_or]
     exact hc
    exact ⟨fun h => absurd he h, fun _ => ⟨rfl, dk_app_old ok he, lastN_app⟩⟩
theorem ladd_cons {l : List Lf} {r : Rec} {rs : List Rec} : ladd l (r :: rs) = if (ladd1 l r).2 ≠ 0 then ladd1 l r else ladd (ladd1 l r).1 rs := rfl
theorem ladd_drop {l : List Lf} {rs : List Rec} {i : Nat} {r : Rec} (h : rs[i]? = some r) : ladd l (rs.drop i) = if (ladd1 l r).2 ≠ 0 then ladd1 l r else ladd (ladd1 l r).1 (rs.drop (i + 1)) := by
 obtain ⟨hi, e⟩ := List.getElem?_eq_some_iff.1 h
 rw [drop_eq_getElem_cons hi, e]
 rfl
abbrev WBk (w d : Nat) (seg torn : Int) : Hp := [(w, .cells (List.toArray [.pointer (some ⟨d, 0, none⟩), .int .i64 seg, .int .i64 torn]) 135 (0, 0))]
set_option maxHeartbeats 2000000 in
theorem add_ct {l : List Lf} (ok : LOk l) {d : Nat} {h : Hp} (hd : IsDk (dk l) d h) {rs : List Rec} {v : Value} {hx : Hp} (hr : Rs rs v hx) (hl : rs.length ≤ 1099511627776) (hz : ∀ r ∈ rs, r.size ≤ 1073741824) {w : Nat} {torn : Int} :
  Ct prog 83 [.pointer (some ⟨w, 0, none⟩), v] [WBk w d (lastN l) torn, h, hx] (fun res H' => ∃ h', res = .int .i64 (ladd l rs).2 ∧ H' = [WBk w d (lastN (ladd l rs).1) torn, h', hx] ∧ IsDk (dk (ladd l rs).1) d h') := by
 refine Ct.mk' func83 rfl rfl rfl (fun g R => ?_)
 try simp only [ca]
 simp only [na]
 try refine run ?_
 refine W.loop (α := Nat × List Lf × Hp) (fun x => x.1 ≤ rs.length ∧ LOk x.2.1 ∧ IsDk (dk x.2.1) d x.2.2 ∧ ladd l rs = ladd x.2.1 (rs.drop x.1))
  (fun x => [(0, .pointer (some ⟨w, 0, none⟩)), (1, v), (10, v), (11, .int .i64 (rs.length : Int)), (12, .int .i64 (x.1 : Int))])
  (fun x => [WBk w d (lastN x.2.1) torn, x.2.2, hx, R]) (fun x => rs.length - x.1) (0, l, h) ⟨Nat.zero_le _, ok, hd, rfl⟩ (by repeat (first | exact Fsub.nil | refine Fsub.cons rfl ?_)) (Hsub.of_picks inferInstance) ?_
 rintro ⟨i, m, y⟩ ⟨hi, okm, hdm, he⟩
 simp only [] at hi okm hdm he ⊢
 by_cases hlt : i < rs.length
 ·obtain ⟨r, hri⟩ : ∃ r, rs[i]? = some r := ⟨_, List.getElem?_eq_getElem hlt⟩
  rw [ladd_drop hri] at he
  have hsz := hz r (mem_of_getElem? hri)
  have hrp := recordP_ct r hsz
  have hsc := size_ct hdm (lastN m)
  by_cases hc : r.code = 0
  ·have hle := (Rec.good hc).fr_le
   obtain ⟨hA, hB⟩ := ladd1_good okm hc
   rw [hc] at hrp
   have hrg := lastN_range okm
   repeat' (first | refine run ?_ | refine al (fun _ => ?_) | fail)
   refine WX.call rfl hrp rfl ?_
   rintro _ _ ⟨u2, h2, rfl, rfl, hs2⟩
   simp only [ca, na]
   have hap := fun k => append_ct hdm k hs2.rs (by omega) okm.used (by rw [okm.fs_len]; exact okm.len) okm.loose
   have htn : toN m = if 4096 ≤ (dk m).size (lastN m) then lastN m + 1 else lastN m := rfl
   by_cases h4 : 4096 ≤ (dk m).size (lastN m)
   ·rw [if_pos h4] at htn
    rw [htn] at hA hB
    try refine run ?_
    refine WX.callQ rfl hsc rfl ?_
    try refine run ?_
    refine WX.call rfl (hap (lastN m + 1)) rfl ?_
    rintro _ _ ⟨y', rfl, rfl, hdy⟩
    simp only [ca, na]
    by_cases hE : (dk m).appE (lastN m + 1) r.fr.length = 0
    ·obtain ⟨e1, e2, e3⟩ := hB hE
     rw [e2] at hdy
     rw [if_neg (by rw [e1]; decide)] at he
     have ok1 := okm.add1 r
     try refine run ?_
     rw [← e3]
     exact D.rd (i + 1, (ladd1 m r).1, y') ⟨by simp only []; omega, ok1, hdy, he⟩ (by simp only []; omega)
    ·have e1 := hA hE
     rw [e1, if_pos (show (51 : Int) ≠ 0 by decide)] at he
     have e2 : (dk m).app (lastN m + 1) r.fr = dk m := by unfold DkS.app; rw [if_neg hE]
     rw [e2] at hdy
     try refine run ?_
     exact D.fin1 [WBk w d (lastN m) torn, y', hx] _ rfl rfl ⟨y', by rw [he], by rw [he], by rw [he]; exact hdy⟩
   ·rw [if_neg h4] at htn
    rw [htn] at hA hB
    try refine run ?_
    refine WX.callQ rfl hsc rfl ?_
    try refine run ?_
    refine WX.call rfl (hap (lastN m)) rfl ?_
    rintro _ _ ⟨y', rfl, rfl, hdy⟩
    simp only [ca, na]
    by_cases hE : (dk m).appE (lastN m) r.fr.length = 0
    ·obtain ⟨e1, e2, e3⟩ := hB hE
     rw [e2] at hdy
     rw [if_neg (by rw [e1]; decide)] at he
     have ok1 := okm.add1 r
     try refine run ?_
     rw [← e3]
     exact D.rd (i + 1, (ladd1 m r).1, y') ⟨by simp only []; omega, ok1, hdy, he⟩ (by simp only []; omega)
    ·have e1 := hA hE
     rw [e1, if_pos (show (51 : Int) ≠ 0 by decide)] at he
     have e2 : (dk m).app (lastN m) r.fr = dk m := by unfold DkS.app; rw [if_neg hE]
     rw [e2] at hdy
     try refine run ?_
     exact D.fin1 [WBk w d (lastN m) torn, y', hx] _ rfl rfl ⟨y', by rw [he], by rw [he], by rw [he]; exact hdy⟩
  ·rw [ladd1_bad hc, if_pos hc] at he
   repeat' (first | refine run ?_ | refine al (fun _ => ?_) | fail)
   refine WX.call rfl hrp rfl ?_
   rintro _ _ ⟨u2, h2, rfl, rfl, hs2⟩
   simp only [ca, na]
   try refine run ?_
   exact D.fin1 [WBk w d (lastN m) torn, y, hx] _ rfl rfl ⟨y, by rw [he], by rw [he], by rw [he]; exact hdm⟩
 ·have hlen : rs.drop i = [] := drop_eq_nil_of_le (by omega)
  rw [hlen] at he
  try refine run ?_
  exact D.fin1 [WBk w d (lastN m) torn, y, hx] _ rfl rfl ⟨y, by rw [he]; rfl, by rw [he]; rfl, by rw [he]; exact hdm⟩
end Go.Proofs.YtejfahjgfedliaaGreat
