/-
  Texts of one road, one behind the other.
-/
import Derived.Test.YtejfahjgfedliaaGreatQEe
import Derived.Test.YtejfahjgfedliaaGreatQEd
set_option linter.unusedVariables false
set_option linter.unusedSimpArgs false
namespace Go.Proofs.YtejfahjgfedliaaGreat
open Go Go.Sl List
structure Lt where
 (fr to ep ix : Int)
 fw : Bool
 en : Ent
 (du st : Int)
def LtI (cs : List Ch) (tn : Tn) (l : Lt) : Prop :=
 if l.fw = true then ∃ ch ∈ cs, ∃ p j P, ch.ep = l.ep ∧ Adj ch.all p j ∧ p.nd = l.fr ∧ j.nd = l.to ∧ l.ix = (P.length : Int) + 1 ∧ EntR l.en ∧ Good cs tn j l.ep (P ++ [l.en])
 else ∃ ch ∈ cs, ∃ z q L, ch.ep = l.ep ∧ Adj ch.all z q ∧ z.nd = l.to ∧ q.nd = l.fr ∧ (0 ≤ l.du ∧ l.du ≤ (L.length : Int)) ∧ (0 ≤ l.st ∧ l.st ≤ (L.length : Int)) ∧ Good cs tn q l.ep L ∧ hold tn q l.ep (L.take l.du.toNat) ∧ Pot cs tn l.ep (L.take l.st.toNat) ∧ (ch.all.getLast? = some q → Pot cs tn l.ep (L.take l.du.toNat))
structure TenI (cs : List Ch) (tn : Tn) (m : Mem) (c : CS) : Prop where
 ok : CsOk c
 id : c.me = m
 co : ∃ ch ∈ cs, c.co = some ch
 mem : ∃ ch ∈ cs, m ∈ ch.all ∧ ch.ep ≤ c.ep
 good : Good cs tn m c.ep c.lg
structure NodI (cs : List Ch) (tn : Tn) (c : CS) : Prop where
 nt : tn c.me = some c
 ak : ∀ ch, c.co = some ch → ∀ q, Adj ch.all c.me q → hold tn q ch.ep (c.lg.take c.ak.toNat)
 st : Pot cs tn c.ep (c.lg.take c.st.toNat)
 bs : ∀ ch, c.co = some ch → ch.ms.getLast? = some c.me → ch.ln.isSome = true → Pot cs tn c.ep (c.lg.take c.bs.toNat)
 me : ∀ ch, c.co = some ch → ∀ m ∈ ch.all, m.nd = c.nd → m = c.me
 st1 : 0 ≤ c.st ∧ c.st ≤ c.du
 ak1 : 0 ≤ c.ak ∧ c.ak ≤ c.du
 ow1 : c.ow ≤ c.du
structure WI (cs : List Ch) (tn : Tn) (vs : List CS) (ml : List Lt) (gd : List Ent) (top : Ch) : Prop where
 chs : Chs cs
 tp : top ∈ cs ∧ ∀ d ∈ cs, d.ep ≤ top.ep
 ten : ∀ m c, tn m = some c → TenI cs tn m c
 cur : ∀ c ∈ vs, NodI cs tn c
 dom : ∀ m c, tn m = some c → ∃ v ∈ vs, v.nd = m.nd ∧ m.sn ≤ v.sn
 dis : (vs.map (·.nd)).Pairwise (· ≠ ·)
 grow : Grw cs tn
 ml : ∀ l ∈ ml, LtI cs tn l
 gd : ∃ e, e ≤ top.ep ∧ Pot cs tn e gd
theorem CS.ep_co {c : CS} {ch : Ch} (h : c.co = some ch) : c.ep = ch.ep := by unfold CS.ep; rw [h]; rfl
theorem WI.okTn {cs : List Ch} {tn : Tn} {vs : List CS} {ml : List Lt} {gd : List Ent} {top : Ch} (h : WI cs tn vs ml gd top) : OkTn tn := fun m c hm => (h.ten m c hm).ok
theorem LtI.map {cs : List Ch} {tn tn' : Tn} {l : Lt} (hh : ∀ k E X, hold tn k E X → hold tn' k E X) (h : LtI cs tn l) : LtI cs tn' l := by
 unfold LtI at h ⊢
 split
 ·rename_i hf
  rw [if_pos hf] at h
  obtain ⟨ch, hc, p, j, P, h1, h2, h3, h4, h5, h6, h7⟩ := h
  exact ⟨ch, hc, p, j, P, h1, h2, h3, h4, h5, h6, h7.map hh⟩
 ·rename_i hf
  rw [if_neg hf] at h
  obtain ⟨ch, hc, p, j, P, h1, h2, h3, h4, h5, h6, h7, h8, h9, h10⟩ := h
  exact ⟨ch, hc, p, j, P, h1, h2, h3, h4, h5, h6, h7.map hh, hh _ _ _ h8, h9.map hh, fun hl => (h10 hl).map hh⟩
section
variable {cs : List Ch} {tn : Tn} {vs : List CS} {ml : List Lt} {gd : List Ent} {top : Ch}
theorem WI.put (h : WI cs tn vs ml gd top) {i : Nat} {c c' : CS} (hi : vs[i]? = some c) (hnd : c'.nd = c.nd) (hsn : c.sn ≤ c'.sn) (r : ∀ d, tn c'.me = some d → Rel d c' ∧ d.ep ≤ c'.ep) (ok : CsOk c') (co : ∃ ch ∈ cs, c'.co = some ch)
  (mem : ∃ ch ∈ cs, c'.me ∈ ch.all ∧ ch.ep ≤ c'.ep) (T : Good cs tn c'.me c'.ep c'.lg) (N : (∀ k E X, hold tn k E X → hold (upd tn c'.me c') k E X) → NodI cs (upd tn c'.me c') c') :
  WI cs (upd tn c'.me c') (vs.set i c') ml gd top := by
 have hh : ∀ k E X, hold tn k E X → hold (upd tn c'.me c') k E X := fun k E X hx => hx.up fun d hd => (r d hd).1
 have hil : i < vs.length := (List.getElem?_eq_some_iff.1 hi).1
 have hin : c' ∈ vs.set i c' := mem_of_getElem? (i := i) (by rw [List.getElem?_set, if_pos rfl, if_pos hil])
 have hset : ∀ d ∈ vs.set i c', d = c' ∨ d ∈ vs ∧ d.me ≠ c'.me := by
  intro d hd
  obtain ⟨j, hj⟩ := mem_iff_getElem?.1 hd
  rw [List.getElem?_set] at hj
  split at hj
  ·cases hj; exact .inl rfl
  ·rename_i hij
   refine .inr ⟨mem_of_getElem? hj, fun e => hij ?_⟩
   exact pw_ne h.dis hi hj (hnd.symm.trans (congrArg Mem.nd e).symm)
 refine ⟨h.chs, h.tp, fun m d hd => ?_, fun d hd => ?_, fun m d hd => ?_, ?_, fun d hd d' hd' hdd k z hl hm hz => ?_, fun l hl => (h.ml l hl).map hh, ?_⟩
 ·by_cases e : m = c'.me
  ·subst e
   rw [upd_self] at hd; cases hd
   exact ⟨ok, rfl, co, mem, T.map hh⟩
  ·rw [upd_ne tn c' e] at hd
   have t := h.ten m d hd
   exact ⟨t.ok, t.id, t.co, t.mem, t.good.map hh⟩
 ·rcases hset d hd with rfl | ⟨hd, hne⟩
  ·exact N hh
  ·have n := h.cur d hd
   exact ⟨by rw [upd_ne tn c' hne]; exact n.nt, fun ch hc q hq => hh _ _ _ (n.ak ch hc q hq), n.st.map hh, fun ch h1 h2 h3 => (n.bs ch h1 h2 h3).map hh, n.me, n.st1, n.ak1, n.ow1⟩
 ·by_cases e : m = c'.me
  ·exact ⟨c', hin, by rw [e]; rfl, by rw [e]; exact Int.le_refl _⟩
  ·rw [upd_ne tn c' e] at hd
   obtain ⟨v, hv, h1, h2⟩ := h.dom m d hd
   obtain ⟨j, hj⟩ := mem_iff_getElem?.1 hv
   by_cases e : i = j
   ·subst e
    rw [hi] at hj; cases hj
    exact ⟨c', hin, by omega, by omega⟩
   ·exact ⟨v, mem_of_getElem? (i := j) (by rw [List.getElem?_set, if_neg e]; exact hj), h1, h2⟩
 ·have : (vs.set i c').map (·.nd) = vs.map (·.nd) := by
   rw [List.map_set, hnd]
   have : c.nd = (vs.map (·.nd))[i]'(by simpa using hil) := by simp [(List.getElem?_eq_some_iff.1 hi).2]
   rw [this]; exact set_getElem_self _
  rw [this]; exact h.dis
 ·obtain ⟨cz, h1, h2⟩ := h.grow d hd d' hd' hdd k z hl hm hz
  by_cases e : z = c'.me
  ·subst e
   exact ⟨c', upd_self .., by have := (r cz h1).2; omega⟩
  ·exact ⟨cz, by rw [upd_ne tn c' e]; exact h1, h2⟩
 ·obtain ⟨e, h1, h2⟩ := h.gd
  exact ⟨e, h1, h2.map hh⟩
theorem WI.go (h : WI cs tn vs ml gd top) {i : Nat} {c c' : CS} (hi : vs[i]? = some c) (hnd : c'.nd = c.nd) (hsn : c'.sn = c.sn) (r : Rel c c') (ok : CsOk c') (co : ∃ ch ∈ cs, c'.co = some ch) (he : c.ep ≤ c'.ep)
  (T : Good cs tn c.me c'.ep c'.lg) (N : (∀ k E X, hold tn k E X → hold (upd tn c.me c') k E X) → upd tn c.me c' c.me = some c' → NodI cs (upd tn c.me c') c') : WI cs (upd tn c.me c') (vs.set i c') ml gd top := by
 have hcm : c ∈ vs := mem_of_getElem? hi
 have htn := (h.cur c hcm).nt
 have hme : c'.me = c.me := by unfold CS.me; rw [hnd, hsn]
 obtain ⟨ch, h1, h2, h3⟩ := (h.ten _ c htn).mem
 have := h.put hi hnd (by omega) (fun d hd => by rw [hme, htn] at hd; cases hd; exact ⟨r, he⟩) ok co ⟨ch, h1, by rw [hme]; exact h2, by omega⟩ (by rw [hme]; exact T) (fun hh => by rw [hme] at hh ⊢; exact N hh (upd_self ..))
 rw [hme] at this; exact this
end
theorem Adj.at {l : List Mem} {i : Nat} {p j : Mem} (h1 : l[i]? = some p) (h2 : l[i + 1]? = some j) : Adj l p j := by
 obtain ⟨a, rfl⟩ := List.getElem?_eq_some_iff.1 h1
 obtain ⟨b, rfl⟩ := List.getElem?_eq_some_iff.1 h2
 exact ⟨l.take i, l.drop (i + 1 + 1), by rw [← drop_eq_getElem_cons b, ← drop_eq_getElem_cons a, take_append_drop]⟩
theorem iplc_ge {xs : List Int} {k : Int} (h : 0 ≤ iplc xs k) : ∃ i : Nat, iplc xs k = (i : Int) ∧ xs[i]? = some k := by
 unfold iplc at h ⊢
 cases hf : xs.findIdx? (fun p => decide (p = k)) with
 | none => rw [hf] at h; simp only [] at h; omega
 | some i =>
  obtain ⟨hi, h1, -⟩ := List.findIdx?_eq_some_iff_getElem.1 hf
  exact ⟨i, rfl, by rw [List.getElem?_eq_getElem hi]; exact congrArg _ (of_decide_eq_true h1)⟩
theorem iplc_of {xs : List Int} {k : Int} {t : Nat} (h : xs[t]? = some k) : ∃ i : Nat, iplc xs k = (i : Int) ∧ i ≤ t := by
 obtain ⟨ht, hk⟩ := List.getElem?_eq_some_iff.1 h
 unfold iplc
 cases hf : xs.findIdx? (fun p => decide (p = k)) with
 | none =>
  rw [List.findIdx?_eq_none_iff] at hf
  have := hf k (mem_of_getElem? h)
  simp at this
 | some i =>
  obtain ⟨hi, h1, h2⟩ := List.findIdx?_eq_some_iff_getElem.1 hf
  refine ⟨i, rfl, Nat.le_of_not_lt fun hlt => ?_⟩
  have := h2 t hlt
  simp [hk] at this
theorem atL_some {xs : List Int} {i k : Int} (h : atL xs i = k) (hk : 0 ≤ k) : 0 ≤ i ∧ xs[i.toNat]? = some k := by
 unfold atL at h
 split at h
 ·omega
 ·rename_i hn
  simp only [not_or] at hn
  refine ⟨by omega, ?_⟩
  rw [getD_eq_getElem?_getD, List.getElem?_eq_getElem (by omega), Option.getD_some] at h
  rw [List.getElem?_eq_getElem (by omega), h]
section
variable {ch : Ch} {n k : Int}
theorem nd_at {i : Nat} (h : (nodesO (some ch))[i]? = some n) : ∃ m, ch.all[i]? = some m ∧ m.nd = n := by
 rw [show nodesO (some ch) = ch.all.map (·.nd) from rfl, List.getElem?_map] at h
 cases hm : ch.all[i]? with
 | none => rw [hm] at h; cases h
 | some m => rw [hm] at h; exact ⟨m, rfl, by simpa using h⟩
theorem last_of (ok : ChOk ch) (h0 : 0 ≤ n) (h : lastO (some ch) = n) : ∃ m, ch.ms.getLast? = some m ∧ m.nd = n := by
 have h1 := ok.l1
 obtain ⟨h2, h3⟩ := atL_some h h0
 rw [show ((cfO (some ch)).n - 1).toNat = ch.ms.length - 1 by show ((ch.ms.length : Int) - 1).toNat = _; omega] at h3
 obtain ⟨m, hm, hn⟩ := nd_at h3
 unfold Ch.all at hm
 rw [List.getElem?_append_left (by omega)] at hm
 exact ⟨m, by rw [List.getLast?_eq_getElem?]; exact hm, hn⟩
theorem head_of (h0 : 0 ≤ n) (h : headO (some ch) = n) : ∃ m, ch.all.head? = some m ∧ m.nd = n := by
 obtain ⟨h2, h3⟩ := atL_some h h0
 obtain ⟨m, hm, hn⟩ := nd_at h3
 exact ⟨m, by rw [List.head?_eq_getElem?]; exact hm, hn⟩
theorem behind_of (hk : 0 ≤ k) (h : behindO (some ch) n = k) : ∃ p j, Adj ch.all p j ∧ p.nd = n ∧ j.nd = k := by
 unfold behindO at h
 split at h
 ·omega
 ·obtain ⟨i, hi, hx⟩ := iplc_ge (xs := nodesO (some ch)) (k := n) (by omega)
  obtain ⟨-, h3⟩ := atL_some h hk
  rw [hi, show ((i : Int) + 1).toNat = i + 1 by omega] at h3
  obtain ⟨p, hp, hpn⟩ := nd_at hx
  obtain ⟨j, hj, hjn⟩ := nd_at h3
  exact ⟨p, j, .at hp hj, hpn, hjn⟩
theorem ahead_of (hk : 0 ≤ k) (h : aheadO (some ch) n = k) : ∃ p j, Adj ch.all p j ∧ p.nd = k ∧ j.nd = n := by
 unfold aheadO at h
 obtain ⟨h2, h3⟩ := atL_some h hk
 obtain ⟨i, hi, hx⟩ := iplc_ge (xs := nodesO (some ch)) (k := n) (by omega)
 rw [hi] at h2 h3
 obtain ⟨t, rfl⟩ : ∃ t, i = t + 1 := ⟨i - 1, by omega⟩
 rw [show (((t + 1 : Nat) : Int) - 1).toNat = t by omega] at h3
 obtain ⟨p, hp, hpn⟩ := nd_at h3
 obtain ⟨j, hj, hjn⟩ := nd_at hx
 exact ⟨p, j, .at hp hj, hpn, hjn⟩
theorem fullC_some (h : fullO (some ch) k = true) : ∃ m ∈ ch.ms, m.nd = k := by
 unfold fullO at h
 obtain ⟨h1, h2⟩ := of_decide_eq_true h
 obtain ⟨i, hi, hx⟩ := iplc_ge h1
 rw [hi, show (cfO (some ch)).n = (ch.ms.length : Int) from rfl] at h2
 obtain ⟨m, hm, hn⟩ := nd_at hx
 unfold Ch.all at hm
 rw [List.getElem?_append_left (by omega)] at hm
 exact ⟨m, mem_of_getElem? hm, hn⟩
theorem fullC_of {m : Mem} (h : m ∈ ch.ms) : fullO (some ch) m.nd = true := by
 obtain ⟨t, ht⟩ := mem_iff_getElem?.1 h
 have htl := (List.getElem?_eq_some_iff.1 ht).1
 have hx : (nodesO (some ch))[t]? = some m.nd := by
  rw [show nodesO (some ch) = ch.all.map (·.nd) from rfl, List.getElem?_map]
  unfold Ch.all
  rw [List.getElem?_append_left htl, ht]; rfl
 obtain ⟨i, hi, hle⟩ := iplc_of hx
 unfold fullO
 rw [decide_eq_true_iff, hi, show (cfO (some ch)).n = (ch.ms.length : Int) from rfl]
 omega
theorem not_full {m : Mem} (h : m ∈ ch.all) (hf : fullO (some ch) m.nd ≠ true) : ch.ln = some m := by
 unfold Ch.all at h
 rcases mem_append.1 h with h | h
 ·exact absurd (fullC_of h) hf
 ·simpa [Option.mem_toList, eq_comm] using h
theorem since_of (ok : ChOk ch) {m : Mem} (h : m ∈ ch.all) : sinceO (some ch) m.nd = m.sn := by
 unfold sinceO
 simp only []
 cases hf : ch.all.findIdx? (fun p => decide (p.nd = m.nd)) with
 | none =>
  rw [List.findIdx?_eq_none_iff] at hf
  have := hf m h
  simp at this
 | some i =>
  obtain ⟨hi, h1, -⟩ := List.findIdx?_eq_some_iff_getElem.1 hf
  obtain ⟨t, ht⟩ := mem_iff_getElem?.1 h
  have : i = t := pw_ne ok.up (List.getElem?_eq_getElem hi) ht (of_decide_eq_true h1)
  subst this
  simp only [getD_eq_getElem?_getD, ht, Option.getD_some]
theorem since_some (h : sinceO (some ch) n ≠ 0) : ∃ m ∈ ch.all, m.nd = n ∧ m.sn = sinceO (some ch) n := by
 unfold sinceO at h ⊢
 simp only [] at h ⊢
 cases hf : ch.all.findIdx? (fun p => decide (p.nd = n)) with
 | none => rw [hf] at h; exact absurd rfl h
 | some i =>
  obtain ⟨hi, h1, -⟩ := List.findIdx?_eq_some_iff_getElem.1 hf
  refine ⟨ch.all[i], getElem_mem hi, of_decide_eq_true h1, ?_⟩
  simp only [getD_eq_getElem?_getD, List.getElem?_eq_getElem hi, Option.getD_some]
theorem all_last {q : Mem} (h : ch.ln = some q) : ch.all.getLast? = some q := by unfold Ch.all; rw [h]; simp
theorem all_last' {z : Mem} (h : ch.ln = none) (hz : ch.ms.getLast? = some z) : ch.all.getLast? = some z := by unfold Ch.all; rw [h]; simpa using hz
theorem before_last {l : List Mem} {z k : Mem} (hz : l.getLast? = some z) (hk : k ∈ l) : k = z ∨ [k, z].Sublist l := by
 obtain ⟨l', rfl⟩ := List.getLast?_eq_some_iff.1 hz
 rcases mem_append.1 hk with h | h
 ·right
  rw [show [k, z] = [k] ++ [z] from rfl]
  exact (singleton_sublist.2 h).append (List.Sublist.refl _)
 ·left; simpa using h
end
section
variable {cs : List Ch} {tn : Tn} {vs : List CS} {ml : List Lt} {gd : List Ent} {top : Ch} (h : WI cs tn vs ml gd top) {i : Nat} {c : CS} (hi : vs[i]? = some c)
include h hi
theorem WI.at : NodI cs tn c ∧ TenI cs tn c.me c := ⟨h.cur c (mem_of_getElem? hi), h.ten _ c (h.cur c (mem_of_getElem? hi)).nt⟩
theorem WI.chain : ∃ ch ∈ cs, c.co = some ch ∧ ChOk ch ∧ c.ep = ch.ep := by
 obtain ⟨ch, h1, h2⟩ := (h.at hi).2.co
 exact ⟨ch, h1, h2, h.chs.ok ch h1, CS.ep_co h2⟩
theorem WI.tailPot {ch : Ch} (hc : ch ∈ cs) (hco : c.co = some ch) (hz : ch.all.getLast? = some c.me) : Pot cs tn c.ep (c.lg.take c.du.toNat) := by
 obtain ⟨n, t⟩ := h.at hi
 have hep := CS.ep_co hco
 have hl := tail h.chs h.grow hc (j := c.me) (fun k hk => before_last hz (mem_append_left _ hk)) (fun q hq => .inl (by have := all_last hq; rw [hz] at this; cases this; rfl)) (fun cj hcj => by rw [n.nt] at hcj; cases hcj; omega)
 have hself : ∀ E, c.ep ≤ E → hold tn c.me E (c.lg.take c.du.toNat) := fun E hE => by
  rw [hold.is n.nt]; unfold dur; rw [if_neg (by omega)]; exact prefix_rfl
 refine ⟨fun d hd hde k hk E h1 h2 => ?_, fun d hd hde q hq z hzz => ?_⟩
 ·rcases hl d hd (by omega) k hk with rfl | ⟨f, hf, hI⟩
  ·exact hself E h1
  ·exact (t.good k ch.ep f hI (by omega) E h1 (by omega)).sub (take_prefix _ _)
 ·have : d = ch := h.chs.un d hd ch hc (by omega)
  subst this
  have hql := all_last hq
  rw [hz] at hql; cases hql
  exact .inl (hself c.ep (Int.le_refl _))
theorem WI.settle : WI cs (upd tn c.me c.settle) (vs.set i c.settle) ml gd top := by
 obtain ⟨n, t⟩ := h.at hi
 obtain ⟨ch, hc, hco, okc, hep⟩ := h.chain hi
 obtain ⟨s1, s2, s3, s4, s5, s6, s7, s8, s9, s10⟩ := settle_same c
 have e4 : c.settle.ep = c.ep := by unfold CS.ep; rw [s4]
 have hme : c.settle.me = c.me := by unfold CS.me; rw [s3, s5]
 have hst : Pot cs tn c.ep (c.lg.take c.settle.st.toNat) ∧ 0 ≤ c.settle.st ∧ c.settle.st ≤ c.du := by
  have hb := t.ok.bs
  have h1 := n.st1
  unfold CS.settle
  split
  ·rename_i hl
   have hl2 := hl.2
   rw [hco] at hl2
   obtain ⟨m, hm, hmn⟩ := last_of okc hl.1 hl2
   have hmm := n.me ch hco m (mem_append_left _ (getLast_mem hm)) hmn
   subst hmm
   have hjo : (cfO c.co).jo = ch.ln.isSome := by rw [hco]; rfl
   split
   ·rename_i hj
    rw [hjo] at hj
    exact ⟨h.tailPot hi hc hco (all_last' (by simpa using hj) hm), by show 0 ≤ c.du; omega, Int.le_refl _⟩
   ·rename_i hj
    split
    ·refine ⟨?_, ?_⟩
     ·show Pot cs tn c.ep (c.lg.take (mx c.st c.bs).toNat)
      unfold mx
      split
      ·exact n.bs ch hco hm (by rw [← hjo]; simpa using hj)
      ·exact n.st
     ·show 0 ≤ mx c.st c.bs ∧ mx c.st c.bs ≤ c.du
      unfold mx; split <;> omega
    ·exact ⟨n.st, n.st1⟩
  ·exact ⟨n.st, n.st1⟩
 refine h.go hi s3 s5 (.same e4 s7 s6 s8) t.ok.settle ⟨ch, hc, by rw [s4, hco]⟩ (by omega) (by rw [e4, s7]; exact t.good) fun hh hu => ?_
 refine ⟨by rw [hme]; exact hu, fun d hd q hq => ?_, ?_, fun d hd hl hj => ?_, fun d hd m hm hmn => ?_, ?_, ?_, by rw [s8, s10]; exact n.ow1⟩
 ·rw [hme] at hq; rw [s4] at hd; rw [s7, s9]; exact hh _ _ _ (n.ak d hd q hq)
 ·rw [e4, s7]; exact hst.1.map hh
 ·rw [s4] at hd; rw [hme] at hl; rw [e4, s7, s6]; exact (n.bs d hd hl hj).map hh
 ·rw [s4] at hd; rw [s3] at hmn; rw [hme]; exact n.me d hd m hm hmn
 ·rw [s8]; exact hst.2
 ·rw [s8, s9]; exact n.ak1
theorem WI.sync0 : WI cs (upd tn c.me { c with du := c.len }) (vs.set i { c with du := c.len }) ml gd top := by
 obtain ⟨n, t⟩ := h.at hi
 obtain ⟨ch, hc, hco, okc, hep⟩ := h.chain hi
 have ok := t.ok
 have hd := ok.du
 have hb := ok.bs
 have hl0 : (0 : Int) ≤ c.len := Int.natCast_nonneg _
 have ok' : CsOk { c with du := c.len } := ⟨ok.co, ⟨hb.1, by show c.bs ≤ c.len; omega⟩, ⟨hl0, Int.le_refl _⟩, ok.len, ok.es⟩
 refine h.go hi rfl rfl (.of ok ok' (Int.le_refl _) (fun _ => prefix_rfl) (tk_le (show c.du.toNat ≤ c.len.toNat by omega)) fun e => absurd e (Int.lt_irrefl _)) ok' ⟨ch, hc, hco⟩ (Int.le_refl _) t.good fun hh hu => ?_
 exact ⟨hu, fun d hd q hq => hh _ _ _ (n.ak d hd q hq), n.st.map hh, fun d hd hl hj => (n.bs d hd hl hj).map hh, n.me, ⟨n.st1.1, by have := n.st1.2; show c.st ≤ c.len; omega⟩, ⟨n.ak1.1, by have := n.ak1.2; show c.ak ≤ c.len; omega⟩, by have := n.ow1; show c.ow ≤ c.len; omega⟩
theorem WI.push {e : Ent} (he : EntR e) (hl : c.lg.length < 256) (T : Good cs tn c.me c.ep (c.lg ++ [e])) : WI cs (upd tn c.me (c.push e)) (vs.set i (c.push e)) ml gd top := by
 obtain ⟨n, t⟩ := h.at hi
 obtain ⟨ch, hc, hco, okc, hep⟩ := h.chain hi
 have ok := t.ok
 have hd := ok.du
 have hb := ok.bs
 have hlen : c.len = (c.lg.length : Int) := rfl
 have hs := n.st1
 have ha := n.ak1
 have hx : ∀ k : Nat, k ≤ c.lg.length → (c.push e).lg.take k = c.lg.take k := fun k hk => tk_app hk
 refine h.go hi rfl rfl (.of ok (ok.push hl he) (Int.le_refl _) (fun _ => ?_) ?_ fun e => absurd e (Int.lt_irrefl _)) (ok.push hl he) ⟨ch, hc, hco⟩ (Int.le_refl _) T fun hh hu => ?_
 ·show _ <+: (c.push e).lg.take c.bs.toNat
  rw [hx _ (by omega)]; exact prefix_rfl
 ·show _ <+: (c.push e).lg.take c.du.toNat
  rw [hx _ (by omega)]; exact prefix_rfl
 ·refine ⟨hu, fun d hd q hq => ?_, ?_, fun d hd hl hj => ?_, n.me, hs, ha, n.ow1⟩
  ·show hold _ q d.ep ((c.push e).lg.take c.ak.toNat)
   rw [hx _ (by omega)]; exact hh _ _ _ (n.ak d hd q hq)
  ·show Pot cs _ c.ep ((c.push e).lg.take c.st.toNat)
   rw [hx _ (by omega)]; exact n.st.map hh
  ·show Pot cs _ c.ep ((c.push e).lg.take c.bs.toNat)
   rw [hx _ (by omega)]; exact (n.bs d hd hl hj).map hh
theorem WI.acks {c' : CS} (e1 : c'.nd = c.nd) (e2 : c'.sn = c.sn) (e3 : c'.co = c.co) (e4 : c'.bs = c.bs) (e5 : c'.lg = c.lg) (e6 : c'.du = c.du) (e7 : c'.ow = c.ow)
  (K : ∀ ch, c.co = some ch → ∀ q, Adj ch.all c.me q → hold tn q ch.ep (c.lg.take c'.ak.toNat)) (S : Pot cs tn c.ep (c.lg.take c'.st.toNat)) (s1 : 0 ≤ c'.st ∧ c'.st ≤ c.du) (s2 : 0 ≤ c'.ak ∧ c'.ak ≤ c.du) :
  WI cs (upd tn c.me c') (vs.set i c') ml gd top := by
 obtain ⟨n, t⟩ := h.at hi
 obtain ⟨ch, hc, hco, okc, hep⟩ := h.chain hi
 have ok := t.ok
 have hme : c'.me = c.me := by unfold CS.me; rw [e1, e2]
 have hee : c'.ep = c.ep := by unfold CS.ep; rw [e3]
 have hl : c'.len = c.len := by unfold CS.len; rw [e5]
 have ok' : CsOk c' := ⟨by rw [e3]; exact ok.co, by rw [e4, e6]; exact ok.bs, by rw [e6, hl]; exact ok.du, by rw [e5]; exact ok.len, by rw [e5]; exact ok.es⟩
 refine h.go hi e1 e2 (.same hee e5 e4 e6) ok' ⟨ch, hc, by rw [e3, hco]⟩ (by omega) (by rw [hee, e5]; exact t.good) fun hh hu => ?_
 refine ⟨by rw [hme]; exact hu, fun d hd q hq => ?_, by rw [hee, e5]; exact S.map hh, fun d hd hl hj => ?_, fun d hd m hm hmn => ?_, by rw [e6]; exact s1, by rw [e6]; exact s2, by rw [e6, e7]; exact n.ow1⟩
 ·rw [hme] at hq; rw [e3] at hd; rw [e5]; exact hh _ _ _ (K d hd q hq)
 ·rw [e3] at hd; rw [hme] at hl; rw [hee, e5, e4]; exact (n.bs d hd hl hj).map hh
 ·rw [e3] at hd; rw [e1] at hmn; rw [hme]; exact n.me d hd m hm hmn
theorem WI.crash0 {m : Nat} (hm1 : c.du.toNat ≤ m) (hm2 : m ≤ c.lg.length) : WI cs (upd tn c.me { c with lg := c.lg.take m, du := (m : Int), st := 0, ak := 0, ow := (m : Int), su := false }) (vs.set i { c with lg := c.lg.take m, du := (m : Int), st := 0, ak := 0, ow := (m : Int), su := false }) ml gd top := by
 obtain ⟨n, t⟩ := h.at hi
 obtain ⟨ch, hc, hco, okc, hep⟩ := h.chain hi
 have ok := t.ok
 have hd := ok.du
 have hb := ok.bs
 have hlen : c.len = (c.lg.length : Int) := rfl
 have hml : (c.lg.take m).length = m := by rw [length_take]; omega
 have htk : ∀ k : Nat, k ≤ m → (c.lg.take m).take k = c.lg.take k := fun k hk => by rw [take_take, Nat.min_eq_left hk]
 obtain ⟨c', hc'⟩ : ∃ c' : CS, c' = { c with lg := c.lg.take m, du := (m : Int), st := 0, ak := 0, ow := (m : Int), su := false } := ⟨_, rfl⟩
 rw [← hc']
 have f1 : c'.nd = c.nd := by rw [hc']
 have f2 : c'.sn = c.sn := by rw [hc']
 have f3 : c'.co = c.co := by rw [hc']
 have f4 : c'.bs = c.bs := by rw [hc']
 have f5 : c'.lg = c.lg.take m := by rw [hc']
 have f6 : c'.du = (m : Int) := by rw [hc']
 have f7 : c'.st = 0 := by rw [hc']
 have f8 : c'.ak = 0 := by rw [hc']
 have f9 : c'.ow = (m : Int) := by rw [hc']
 have hme : c'.me = c.me := by unfold CS.me; rw [f1, f2]
 have hee : c'.ep = c.ep := by unfold CS.ep; rw [f3]
 have ok' : CsOk c' := ⟨by rw [f3]; exact ok.co, by rw [f4, f6]; omega, by rw [f6]; unfold CS.len; rw [f5, hml]; omega, by rw [f5, hml]; have := ok.len; omega, by rw [f5]; exact fun e he => ok.es e (mem_of_mem_take he)⟩
 refine h.go hi f1 f2 (.of ok ok' (by omega) (fun _ => ?_) ?_ fun e => absurd e (by omega)) ok' ⟨ch, hc, by rw [f3, hco]⟩ (by omega) (by rw [hee, f5]; exact t.good.sub (take_prefix _ _)) fun hh hu => ?_
 ·rw [f5, f4, htk _ (by omega)]; exact prefix_rfl
 ·rw [f5, f6, htk _ (by omega)]; exact tk_le (by omega)
 ·refine ⟨by rw [hme]; exact hu, fun d hd q hq => by rw [f8]; exact hold.nil, by rw [f7]; exact Pot.nil, fun d hd hl hj => ?_, fun d hd m' hm hmn => ?_, by rw [f7, f6]; omega, by rw [f8, f6]; omega, by rw [f9, f6]; exact Int.le_refl _⟩
  ·rw [f3] at hd; rw [hme] at hl; rw [hee, f5, f4, htk _ (by omega)]; exact (n.bs d hd hl hj).map hh
  ·rw [f3] at hd; rw [f1] at hmn; rw [hme]; exact n.me d hd m' hm hmn
theorem WI.enter0 {ch : Ch} (hc : ch ∈ cs) (hep : c.ep < ch.ep) (hr : sinceO (some ch) c.nd = 0 ∨ sinceO (some ch) c.nd = c.sn) :
  WI cs (upd tn c.me ⟨c.dc, c.rg, c.nd, some ch, c.sn, c.len, c.lg, c.len, c.st, 0, 0, true⟩) (vs.set i ⟨c.dc, c.rg, c.nd, some ch, c.sn, c.len, c.lg, c.len, c.st, 0, 0, true⟩) ml gd top := by
 obtain ⟨n, t⟩ := h.at hi
 have ok := t.ok
 have hd := ok.du
 have hb := ok.bs
 have hlen : c.len = (c.lg.length : Int) := rfl
 have hlt : c.lg.take c.len.toNat = c.lg := take_of_length_le (by omega)
 have okh := h.chs.ok ch hc
 obtain ⟨c', hc'⟩ : ∃ c' : CS, c' = ⟨c.dc, c.rg, c.nd, some ch, c.sn, c.len, c.lg, c.len, c.st, 0, 0, true⟩ := ⟨_, rfl⟩
 rw [← hc']
 have f1 : c'.nd = c.nd := by rw [hc']
 have f2 : c'.sn = c.sn := by rw [hc']
 have f3 : c'.co = some ch := by rw [hc']
 have f4 : c'.bs = c.len := by rw [hc']
 have f5 : c'.lg = c.lg := by rw [hc']
 have f6 : c'.du = c.len := by rw [hc']
 have f7 : c'.st = c.st := by rw [hc']
 have f8 : c'.ak = 0 := by rw [hc']
 have f9 : c'.ow = 0 := by rw [hc']
 have hme : c'.me = c.me := by unfold CS.me; rw [f1, f2]
 have hee : c'.ep = ch.ep := CS.ep_co f3
 have ok' : CsOk c' := ⟨by rw [f3]; exact ChO.some okh, by rw [f4, f6]; omega, by rw [f6]; unfold CS.len; rw [f5]; omega, by rw [f5]; exact ok.len, by rw [f5]; exact ok.es⟩
 have hs := n.st1
 refine h.go hi f1 f2 (.of ok ok' (by omega) (fun e => absurd e (by omega)) ?_ fun _ => ?_) ok' ⟨ch, hc, f3⟩ (by omega) (by rw [f5]; exact t.good.later (by omega)) fun hh hu => ?_
 ·rw [f5, f6, hlt]; exact take_prefix _ _
 ·rw [f5, f4, hlt]; exact take_prefix _ _
 ·refine ⟨by rw [hme]; exact hu, fun d hd q hq => by rw [f8]; exact hold.nil, by rw [f5, f7, hee]; exact (n.st.later (by omega)).map hh, fun d hd hl hj => ?_, fun d hd m' hm hmn => ?_, by rw [f7, f6]; omega, by rw [f8, f6]; omega, by rw [f9, f6]; omega⟩
  ·rw [f3] at hd; cases hd
   rw [hme] at hl
   rw [hee, f5, f4, hlt]
   have hdur : ∀ E, hold (upd tn c.me c') c.me E c.lg := fun E => by
    rw [hold.is hu]; unfold dur
    split
    ·rw [f5, f4, hlt]; exact prefix_rfl
    ·rw [f5, f6, hlt]; exact prefix_rfl
   have htl := tail h.chs h.grow hc (j := c.me) (fun k hk => (before_last hl hk).imp id fun h => h.trans (sublist_append_left _ _)) (fun q hq => .inr ⟨hl, fun cj hcj => by rw [n.nt] at hcj; cases hcj; exact hep⟩) (fun cj hcj => by rw [n.nt] at hcj; cases hcj; omega)
   refine ⟨fun d hd hde k hk E h1 h2 => ?_, fun d hd hde q hq z hz => ?_⟩
   ·rcases htl d hd (by omega) k hk with rfl | ⟨f, hf, hI⟩
    ·exact hdur E
    ·exact hh _ _ _ (t.good k ch.ep f hI (by omega) E (by omega) (by omega))
   ·have : d = ch := h.chs.un d hd ch hc (by omega)
    subst this
    rw [hl] at hz; cases hz
    exact .inr (hdur _)
  ·rw [f3] at hd; cases hd
   rw [f1] at hmn
   have hsn := since_of okh hm
   have hrg := (okh.rg m' hm).2.2.1
   rw [hmn] at hsn
   rw [hme]
   obtain ⟨a, b⟩ := m'
   simp only [] at hmn hsn hrg
   unfold CS.me
   subst hmn
   rcases hr with hr | hr
   ·omega
   ·rw [← hsn, hr]
theorem WI.fresh {ch : Ch} (hc : ch ∈ cs) (hep : c.ep < ch.ep) (h0 : sinceO (some ch) c.nd ≠ 0) (hr : sinceO (some ch) c.nd ≠ c.sn) :
  ∃ tn', WI cs tn' (vs.set i ⟨c.dc, c.rg, c.nd, some ch, sinceO (some ch) c.nd, 0, [], 0, 0, 0, 0, true⟩) ml gd top := by
 obtain ⟨n, t⟩ := h.at hi
 have okh := h.chs.ok ch hc
 obtain ⟨m, hm, hmn, hms⟩ := since_some h0
 obtain ⟨c', hc'⟩ : ∃ c' : CS, c' = ⟨c.dc, c.rg, c.nd, some ch, sinceO (some ch) c.nd, 0, [], 0, 0, 0, 0, true⟩ := ⟨_, rfl⟩
 rw [← hc']
 have f1 : c'.nd = c.nd := by rw [hc']
 have f2 : c'.sn = m.sn := by rw [hc', hms]
 have f3 : c'.co = some ch := by rw [hc']
 have f5 : c'.lg = [] := by rw [hc']
 have f4 : c'.bs = 0 := by rw [hc']
 have f6 : c'.du = 0 := by rw [hc']
 have f7 : c'.st = 0 := by rw [hc']
 have f8 : c'.ak = 0 := by rw [hc']
 have f9 : c'.ow = 0 := by rw [hc']
 have hme : c'.me = m := by unfold CS.me; rw [f1, f2, ← hmn]
 have hee : c'.ep = ch.ep := CS.ep_co f3
 have hgt : c.sn < m.sn := by
  refine Classical.byContradiction fun hn => ?_
  obtain ⟨d, hd, hdm, hde⟩ := t.mem
  have h1 := (h.chs.ok d hd).rg _ hdm
  have h2 : m ∈ d.all := h.chs.mem_back hd hc (by omega) hm (by have : c.me.sn = c.sn := rfl; omega)
  have := h.chs.one hd h2 hdm (by rw [hmn]; rfl)
  have : m.sn = c.sn := by rw [this]; rfl
  omega
 have hno : tn m = none := by
  cases hk : tn m with
  | none => rfl
  | some d =>
   obtain ⟨v, hv, h1, h2⟩ := h.dom m d hk
   obtain ⟨j, hj⟩ := mem_iff_getElem?.1 hv
   have : i = j := pw_ne h.dis hi hj (by rw [h1, hmn])
   subst this
   rw [hi] at hj; cases hj
   omega
 have ok' : CsOk c' := ⟨by rw [f3]; exact ChO.some okh, by rw [f4, f6]; omega, by rw [f6]; unfold CS.len; rw [f5]; exact ⟨Int.le_refl _, Int.le_refl _⟩, by rw [f5]; exact Nat.zero_le _, by rw [f5]; exact fun e he => nomatch he⟩
 refine ⟨_, h.put hi f1 (by omega) (fun d hd => by rw [hme, hno] at hd; cases hd) ok' ⟨ch, hc, f3⟩ ⟨ch, hc, by rw [hme]; exact hm, by omega⟩ (by rw [f5]; exact Good.nil) fun hh => ?_⟩
 refine ⟨upd_self .., fun d hd q hq => by rw [f8]; exact hold.nil, by rw [f7]; exact Pot.nil, fun d hd hl hj => by rw [f4]; exact Pot.nil, fun d hd m' hm' hmn' => ?_, by rw [f7, f6]; omega, by rw [f8, f6]; omega, by rw [f9, f6]; omega⟩
 rw [f3] at hd; cases hd
 rw [hme]
 exact h.chs.one hc hm' hm (by rw [hmn', f1, hmn])
end
theorem Adj.mem1 {l : List Mem} {x y : Mem} (h : Adj l x y) : x ∈ l := h.sub.subset (by simp)
theorem Adj.mem2 {l : List Mem} {x y : Mem} (h : Adj l x y) : y ∈ l := h.sub.subset (by simp)
theorem Adj.uniq {l : List Mem} (hn : (l.map (·.nd)).Pairwise (· ≠ ·)) {x y y' : Mem} (h : Adj l x y) (h' : Adj l x y') : y = y' := by
 obtain ⟨a, b, rfl⟩ := h
 obtain ⟨a', b', e⟩ := h'
 have hi : (a ++ x :: y :: b)[a.length]? = some x := by simp
 have hi' : (a ++ x :: y :: b)[a'.length]? = some x := by rw [e]; simp
 have hj : (a ++ x :: y :: b)[a.length + 1]? = some y := by simp
 have hj' : (a ++ x :: y :: b)[a'.length + 1]? = some y' := by rw [e]; simp
 have : a.length = a'.length := pw_ne hn hi hi' rfl
 rw [← this, hj] at hj'
 cases hj'; rfl
theorem Adj.snoc {l : List Mem} {z q : Mem} (hn : (l ++ [q]).Nodup) (h : Adj (l ++ [q]) z q) : l.getLast? = some z := by
 obtain ⟨a, b, e⟩ := h
 rcases eq_nil_or_concat b with rfl | ⟨b', w, rfl⟩
 ·have : l ++ [q] = (a ++ [z]) ++ [q] := by rw [e]; simp
  have := append_cancel_right this
  rw [this]; simp
 ·exfalso
  have h1 : l ++ [q] = (a ++ z :: q :: b') ++ [w] := by rw [e]; simp
  obtain ⟨h2, h3⟩ := append_inj' h1 rfl
  have hw : w = q := by simpa using h3.symm
  rw [h2] at hn
  rw [nodup_append] at hn
  exact hn.2.2 q (by simp) q (by simp) rfl
theorem wi_then {cs : List Ch} {vs : List CS} {ml : List Lt} {gd : List Ent} {top : Ch} {i : Nat} {c : CS} (hi : vs[i]? = some c) {c1 : CS} (h1 : ∃ tn', WI cs tn' (vs.set i c1) ml gd top) : ∃ tn', WI cs tn' (vs.set i c1.settle) ml gd top := by
 obtain ⟨tn', h1⟩ := h1
 have hil : i < vs.length := (List.getElem?_eq_some_iff.1 hi).1
 have := h1.settle (i := i) (c := c1) (by rw [List.getElem?_set, if_pos rfl, if_pos hil])
 rw [set_set] at this
 exact ⟨_, this⟩
section
variable {cs : List Ch} {tn : Tn} {vs : List CS} {ml : List Lt} {gd : List Ent} {top : Ch} (h : WI cs tn vs ml gd top) {i : Nat} {c : CS} (hi : vs[i]? = some c)
include h hi
theorem WI.noop : ∃ tn', WI cs tn' (vs.set i c) ml gd top := by
 have hil : i < vs.length := (List.getElem?_eq_some_iff.1 hi).1
 have : vs.set i c = vs := by rw [← (List.getElem?_eq_some_iff.1 hi).2]; exact set_getElem_self _
 rw [this]; exact ⟨tn, h⟩
theorem WI.sync : ∃ tn', WI cs tn' (vs.set i c.sync) ml gd top := wi_then hi ⟨_, h.sync0 hi⟩
theorem WI.head {e : Ent} (hh : c.head) (he : EntR e) (hl : c.lg.length < 256) : ∃ tn', WI cs tn' (vs.set i (c.push e).settle) ml gd top := by
 obtain ⟨n, t⟩ := h.at hi
 obtain ⟨ch, hc, hco, okc, hep⟩ := h.chain hi
 refine wi_then hi ⟨_, h.push hi he hl fun k e' f hI hle E h1 h2 => ?_⟩
 exfalso
 have hh2 := hh.2
 rw [hco] at hh2
 obtain ⟨m, hm, hmn⟩ := head_of hh.1 hh2
 have hma : m ∈ ch.all := mem_of_head? hm
 have hme := n.me ch hco m hma hmn
 subst hme
 exact hI.not_head h.chs hc (by omega) (okc.rg _ hma).2.2.2 hm
theorem WI.putS (key val : ByteArray) (dead : Bool) (deps : V9) (clock cl op : Int) : ∃ tn', WI cs tn' (vs.set i (c.putS key val dead deps clock cl op).2) ml gd top := by
 unfold CS.putS
 split
 ·exact h.noop hi
 split
 ·exact h.noop hi
 split
 ·exact h.noop hi
 split
 ·exact h.noop hi
 split
 ·exact h.noop hi
 ·rename_i h1 _ _ h4 h5
  refine h.head hi (Decidable.not_not.1 h1) (Decidable.not_not.1 h5) ?_
  have hlen : c.len = (c.lg.length : Int) := rfl
  omega
theorem WI.takeL {l : Lt} (hl : l ∈ ml) (hf : l.fw = true) (hto : l.to = c.nd) : ∃ tn', WI cs tn' (vs.set i (c.take l.fr l.ep l.ix l.en).2) ml gd top := by
 unfold CS.take
 split
 ·rename_i hk
  obtain ⟨k1, -, -, k4, k5, k6⟩ := hk
  obtain ⟨n, t⟩ := h.at hi
  obtain ⟨ch, hc, hco, okc, hep⟩ := h.chain hi
  have hlen : c.len = (c.lg.length : Int) := rfl
  refine wi_then hi ⟨_, h.push hi k5 (by omega) ?_⟩
  have hL := h.ml l hl
  unfold LtI at hL
  rw [if_pos hf] at hL
  obtain ⟨ch', hc', p, j, P, g1, g2, g3, g4, g5, g6, g7⟩ := hL
  have : ch' = ch := h.chs.un ch' hc' ch hc (by rw [g1, k1]; exact hep)
  subst this
  have hj := n.me ch' hco j g2.mem2 (by rw [g4, hto])
  subst hj
  intro k e' f hI hle E h1 h2
  have a1 := t.good k e' f hI hle E h1 h2
  have k1' : l.ep = c.ep := k1
  have a2 := g7 k e' f hI (by omega) E (by omega) h2
  have : c.lg = P := by
   have hlp : c.lg.length = P.length := by omega
   rcases a1.comp h.okTn a2 with h3 | h3
   ·have h4 : c.lg <+: P := by
     have := prefix_of_prefix_length_le h3 (prefix_append P [l.en]) (by omega)
     exact this
    exact h4.eq_of_length hlp
   ·have := h3.length_le
    simp only [length_append, length_cons, length_nil] at this
    omega
  rw [this]; exact a2
 ·exact h.noop hi
theorem WI.heardL {l : Lt} (hl : l ∈ ml) (hf : l.fw = false) (hto : l.to = c.nd) : ∃ tn', WI cs tn' (vs.set i (c.heard l.fr l.ep l.du l.st).2) ml gd top := by
 unfold CS.heard
 split
 ·rename_i hk
  obtain ⟨k1, -, -⟩ := hk
  obtain ⟨n, t⟩ := h.at hi
  obtain ⟨ch, hc, hco, okc, hep⟩ := h.chain hi
  have hL := h.ml l hl
  unfold LtI at hL
  rw [if_neg (by simp [hf])] at hL
  obtain ⟨ch', hc', z, q, L, g1, g2, g3, g4, g5, g6, g7, g8, g9, g10⟩ := hL
  have : ch' = ch := h.chs.un ch' hc' ch hc (by rw [g1, k1]; exact hep)
  subst this
  have hz := n.me ch' hco z g2.mem1 (by rw [g3, hto])
  subst hz
  have k1' : l.ep = c.ep := k1
  have hLz : L <+: c.lg.take c.du.toNat := by
   have := g7 c.me ch'.ep 0 (.here hc' g2.sub) (by omega) c.ep (by omega) (by have := okc.e1; omega)
   rw [hold.is n.nt] at this
   unfold dur at this
   rw [if_neg (by omega)] at this
   exact this
  have hLp : L <+: c.lg := hLz.trans (take_prefix _ _)
  have hpt : ∀ k : Nat, k ≤ L.length → c.lg.take k = L.take k := fun k hk => pre_tk hLp hk
  have hsub : ∀ d m : Int, 0 ≤ m → m ≤ (L.length : Int) → d ≤ m → c.lg.take d.toNat <+: L.take m.toNat := fun d m h0 h1 h2 => by
   rw [hpt _ (by omega)]; exact tk_le (by omega)
  have hs1 := n.st1
  have ha1 := n.ak1
  have hb1 := t.ok.bs
  have hd1 : mn l.du c.du ≤ l.du ∧ mn l.du c.du ≤ c.du ∧ 0 ≤ mn l.du c.du := by unfold mn; split <;> omega
  have hd2 : mn l.st c.du ≤ l.st ∧ mn l.st c.du ≤ c.du ∧ 0 ≤ mn l.st c.du := by unfold mn; split <;> omega
  have tmx : ∀ {R : List Ent → Prop} (a b : Int), R (c.lg.take a.toNat) → R (c.lg.take b.toNat) → R (c.lg.take (mx a b).toNat) := fun a b ha hb => by unfold mx; split <;> assumption
  have bmx : ∀ a b : Int, 0 ≤ a ∧ a ≤ c.du → 0 ≤ b ∧ b ≤ c.du → 0 ≤ mx a b ∧ mx a b ≤ c.du := fun a b ha hb => by unfold mx; split <;> assumption
  have hK : ∀ ch, c.co = some ch → ∀ q', Adj ch.all c.me q' → hold tn q' ch.ep (c.lg.take (mx c.ak (mn l.du c.du)).toNat) := by
   intro d hd q' hq
   rw [hco] at hd; cases hd
   have : q' = q := hq.uniq okc.up g2
   subst this
   exact tmx (R := fun X => hold tn q' ch'.ep X) _ _ (n.ak ch' hco q' hq) (by rw [g1]; exact g8.sub (hsub _ _ g5.1 g5.2 hd1.1))
  have hbk := bmx c.ak (mn l.du c.du) ha1 ⟨hd1.2.2, hd1.2.1⟩
  refine wi_then hi ?_
  unfold CS.heard0
  split
  ·refine ⟨_, h.acks hi rfl rfl rfl rfl rfl rfl rfl hK ?_ (bmx c.st _ hs1 ⟨hd2.2.2, hd2.2.1⟩) hbk⟩
   exact tmx (R := fun X => Pot cs tn c.ep X) _ _ n.st (by rw [← k1']; exact g9.sub (hsub _ _ g6.1 g6.2 hd2.1))
  ·rename_i hfu
   rw [hco, ← g4] at hfu
   have hq := not_full g2.mem2 hfu
   have hlast := all_last hq
   have hms : ch'.ms.getLast? = some c.me := by
    have hn := okc.nodup
    have ha : ch'.all = ch'.ms ++ [q] := by unfold Ch.all; rw [hq]; rfl
    rw [ha] at hn g2
    exact g2.snoc hn
   split
   ·refine ⟨_, h.acks hi rfl rfl rfl rfl rfl rfl rfl hK ?_ (bmx _ _ (bmx c.st c.bs hs1 (by omega)) ⟨hd1.2.2, hd1.2.1⟩) hbk⟩
    refine tmx (R := fun X => Pot cs tn c.ep X) _ _ (tmx (R := fun X => Pot cs tn c.ep X) _ _ n.st (n.bs ch' hco hms (by rw [hq]; rfl))) ?_
    rw [← k1']; exact (g10 hlast).sub (hsub _ _ g5.1 g5.2 hd1.1)
   ·exact ⟨_, h.acks hi rfl rfl rfl rfl rfl rfl rfl hK n.st hs1 hbk⟩
 ·exact h.noop hi
theorem WI.enter {ch : Ch} (hc : ch ∈ cs) : ∃ tn', WI cs tn' (vs.set i (c.enter ch.cfg).2) ml gd top := by
 have okh := h.chs.ok ch hc
 have hcf : chOf ch.cfg = ch := chOf_cfg (by have := okh.l4; omega)
 unfold CS.enter
 split
 ·exact h.noop hi
 split
 ·exact h.noop hi
 ·rename_i hr hep
  have hep : c.ep < ch.ep := Int.not_le.1 hep
  refine wi_then hi ?_
  unfold CS.enter0
  rw [hcf]
  split
  ·rename_i hs; exact h.fresh hi hc hep hs.1 hs.2
  ·rename_i hs
   exact ⟨_, h.enter0 hi hc hep (by rw [Decidable.not_and_iff_or_not] at hs; simpa using hs)⟩
theorem WI.again {m : Nat} (hm1 : c.du.toNat ≤ m) (hm2 : m ≤ c.lg.length) : ∃ tn', WI cs tn' (vs.set i (CS.restore c.dc c.rg c.nd (cfO c.co) c.sn c.bs (c.lg.take m))) ml gd top := by
 obtain ⟨n, t⟩ := h.at hi
 obtain ⟨ch, hc, hco, okc, hep⟩ := h.chain hi
 have hb := t.ok.bs
 have hd := t.ok.du
 have e : CS.restore0 c.dc c.rg c.nd (cfO c.co) c.sn c.bs (c.lg.take m) = { c with lg := c.lg.take m, du := (m : Int), st := 0, ak := 0, ow := (m : Int), su := false } := by
  have hl : (c.lg.take m).length = m := by rw [length_take]; omega
  have hr : (if RightC (cfO c.co) then some (chOf (cfO c.co)) else none) = c.co := by
   rw [hco, show cfO (some ch) = ch.cfg from rfl, if_pos (rightC_of okc), chOf_cfg (by have := okc.l4; omega)]
  have hbs : mx 0 (mn c.bs (m : Int)) = c.bs := by unfold mx mn; split <;> split <;> omega
  unfold CS.restore0
  rw [hl, hr, hbs]
 unfold CS.restore
 rw [e]
 exact wi_then hi ⟨_, h.crash0 hi hm1 hm2⟩
theorem WI.tellL (ha : 0 ≤ aheadO c.co c.nd) : LtI cs tn ⟨c.nd, aheadO c.co c.nd, c.ep, 0, false, Ent.z, c.du, c.st⟩ := by
 obtain ⟨n, t⟩ := h.at hi
 obtain ⟨ch, hc, hco, okc, hep⟩ := h.chain hi
 rw [hco] at ha ⊢
 obtain ⟨z, q, hA, hz, hq⟩ := ahead_of ha rfl
 have hqm := n.me ch hco q hA.mem2 hq
 subst hqm
 have hd := t.ok.du
 have hs := n.st1
 have hlen : c.len = (c.lg.length : Int) := rfl
 refine ⟨ch, hc, z, c.me, c.lg, hep.symm, hA, hz, rfl, ⟨hd.1, hd.2⟩, ⟨hs.1, by show c.st ≤ _; omega⟩, t.good, ?_, n.st, fun hl => h.tailPot hi hc hco hl⟩
 rw [hold.is n.nt]; unfold dur
 rw [if_neg (Int.lt_irrefl _)]; exact prefix_rfl
theorem WI.sendL {x : Nat} {e : Ent} (hb : 0 ≤ behindO c.co c.nd) (hx : (x : Int) < c.du) (he : c.lg[x]? = some e) (du st : Int) : LtI cs tn ⟨c.nd, behindO c.co c.nd, c.ep, (x : Int) + 1, true, e, du, st⟩ := by
 obtain ⟨n, t⟩ := h.at hi
 obtain ⟨ch, hc, hco, okc, hep⟩ := h.chain hi
 rw [hco] at hb ⊢
 obtain ⟨p, j, hA, hp, hj⟩ := behind_of hb rfl
 have hpm := n.me ch hco p hA.mem1 hp
 subst hpm
 have hxl := (List.getElem?_eq_some_iff.1 he).1
 have htk : c.lg.take x ++ [e] = c.lg.take (x + 1) := by rw [take_add_one, he]; rfl
 refine ⟨ch, hc, c.me, j, c.lg.take x, hep.symm, hA, rfl, hj, by show (x : Int) + 1 = _; rw [length_take, Nat.min_eq_left (by omega)], t.ok.es e (mem_of_getElem? he), ?_⟩
 rw [htk]
 intro k e' f hI hle E h1 h2
 have hle : c.ep ≤ e' := hle
 have h1 : c.ep ≤ E := h1
 rcases hI.pred h.chs (fun m e => ∃ cm, tn m = some cm ∧ e < cm.ep) (fun hc1 hc2 he12 hl hm hz e he => by
  obtain ⟨cz, hcz, hz2⟩ := h.grow _ hc1 _ hc2 he12 _ _ hl hm hz
  exact ⟨cz, hcz, by omega⟩) hc (by omega) (okc.rg j hA.mem2).2.2.2 hA with hk | ⟨f', hf', hk⟩ | ⟨cm, hcm, hlt⟩
 ·subst hk
  rw [hold.is n.nt]; unfold dur
  rw [if_neg (by omega)]; exact tk_le (by omega)
 ·exact (t.good k ch.ep f' hk (by omega) E h1 (by omega)).sub (take_prefix _ _)
 ·rw [n.nt] at hcm; cases hcm; omega
end
section
variable {cs : List Ch} {tn : Tn} {vs : List CS} {ml : List Lt} {gd : List Ent} {top : Ch} (h : WI cs tn vs ml gd top)
include h
theorem WI.mail {ml' : List Lt} (hm : ∀ l ∈ ml', l ∈ ml ∨ LtI cs tn l) : WI cs tn vs ml' gd top :=
 ⟨h.chs, h.tp, h.ten, h.cur, h.dom, h.dis, h.grow, fun l hl => (hm l hl).elim (h.ml l) id, h.gd⟩
theorem WI.to_pos {l : Lt} (hl : l ∈ ml) : 0 ≤ l.to := by
 have hL := h.ml l hl
 unfold LtI at hL
 split at hL
 ·obtain ⟨ch, hc, p, j, P, g1, g2, g3, g4, -⟩ := hL
  have := ((h.chs.ok ch hc).rg j g2.mem2).1; omega
 ·obtain ⟨ch, hc, z, q, L, g1, g2, g3, -⟩ := hL
  have := ((h.chs.ok ch hc).rg z g2.mem1).1; omega
theorem WI.ep_le {m : Mem} {c : CS} (hm : tn m = some c) : c.ep ≤ top.ep := by
 obtain ⟨ch, h1, h2⟩ := (h.ten m c hm).co
 rw [CS.ep_co h2]; exact h.tp.2 ch h1
theorem WI.comp {e e' : Int} {X Y : List Ent} (he : e ≤ top.ep) (he' : e' ≤ top.ep) (hX : Pot cs tn e X) (hY : Pot cs tn e' Y) : X <+: Y ∨ Y <+: X := by
 obtain ⟨z, hz⟩ := (h.chs.ok top h.tp.1).last
 have hz := getLast_mem hz
 exact (hX.1 top h.tp.1 he z hz (top.ep) he (by omega)).comp h.okTn (hY.1 top h.tp.1 he' z hz (top.ep) he' (by omega))
theorem WI.sound {i : Nat} {c : CS} (hi : vs[i]? = some c) : (gd <+: c.lg.take c.st.toNat ∨ c.lg.take c.st.toNat <+: gd) ∧ (WI cs tn vs ml (c.lg.take c.st.toNat) top) := by
 obtain ⟨n, t⟩ := h.at hi
 obtain ⟨e, he, hp⟩ := h.gd
 have hle := h.ep_le n.nt
 exact ⟨h.comp he hle hp n.st, ⟨h.chs, h.tp, h.ten, h.cur, h.dom, h.dis, h.grow, h.ml, ⟨_, hle, n.st⟩⟩⟩
theorem WI.prefixes {i j : Nat} {c d : CS} (hi : vs[i]? = some c) (hj : vs[j]? = some d) (hb : 0 ≤ behindO c.co c.nd) (hd : d.nd = behindO c.co c.nd) (he : d.ep = c.ep) : d.lg <+: c.lg.take c.du.toNat := by
 obtain ⟨n, t⟩ := h.at hi
 obtain ⟨n', t'⟩ := h.at hj
 obtain ⟨ch, hc, hco, okc, hep⟩ := h.chain hi
 obtain ⟨ch', hc', hco', -, hep'⟩ := h.chain hj
 have : ch' = ch := h.chs.un _ hc' _ hc (by omega)
 subst this
 rw [hco] at hb hd
 obtain ⟨p, q, hA, hp, hq⟩ := behind_of hb rfl
 have hpm := n.me ch' hco p hA.mem1 hp
 subst hpm
 have hqm := n'.me ch' hco' q hA.mem2 (by rw [hq, hd])
 subst hqm
 have hh := t'.good c.me ch'.ep 0 (.here hc' hA.sub) (by omega) c.ep (by omega) (by have := okc.e1; omega)
 rw [hold.is n.nt] at hh
 unfold dur at hh
 rw [if_neg (Int.lt_irrefl _)] at hh
 exact hh
theorem WI.turn {c' : Ch} (ok' : ChOk c') (hep : c'.ep = top.ep + 1) (hx : Nx top c') (hgr : ∀ q, top.ln = some q → c'.ms = top.ms ++ [q] → ∃ (i : Nat) (c : CS), vs[i]? = some c ∧ c.co = some top ∧ top.ms.getLast? = some c.me ∧ c.bs ≤ c.ak) : WI (c' :: cs) tn vs ml gd c' := by
 have hg : ∀ q z, top.ln = some q → c'.ms = top.ms ++ [q] → top.ms.getLast? = some z → ∃ cz, tn z = some cz ∧ cz.ep = top.ep ∧ hold tn q top.ep (cz.lg.take cz.bs.toNat) := by
  intro q z hl hm hz
  obtain ⟨i, c, hi, hco, hlast, hbk⟩ := hgr q hl hm
  rw [hz] at hlast; cases hlast
  obtain ⟨n, t⟩ := h.at hi
  have hA : Adj top.all c.me q := by
   obtain ⟨l, hl2⟩ := List.getLast?_eq_some_iff.1 hz
   exact ⟨l, [], by unfold Ch.all; rw [hl, hl2]; simp⟩
  exact ⟨c, n.nt, CS.ep_co hco, (n.ak top hco q hA).sub (tk_le (by have := t.ok.bs; omega))⟩
 have N : NewCh cs tn top c' := ⟨h.tp.2, h.tp.1, hep, hx, fun q z hl hm hz E X hE hh => by
  obtain ⟨cz, h1, h2, h3⟩ := hg q z hl hm hz
  rw [hold.is h1] at hh
  unfold dur at hh
  rw [if_pos (by omega)] at hh
  exact h3.sub hh⟩
 have hlt : ∀ d ∈ cs, d.ep < c'.ep := fun d hd => by have := h.tp.2 d hd; omega
 have hC : Chs (c' :: cs) := by
  refine ⟨fun d hd => ?_, fun d hd d' hd' he => ?_, fun d hd h1 => ?_⟩
  ·rcases mem_cons.1 hd with rfl | hd
   ·exact ok'
   ·exact h.chs.ok d hd
  ·rcases mem_cons.1 hd with e1 | k1 <;> rcases mem_cons.1 hd' with e2 | k2
   ·rw [e1, e2]
   ·have := hlt d' k2; rw [e1] at he; omega
   ·have := hlt d k1; rw [e2] at he; omega
   ·exact h.chs.un d k1 d' k2 he
  ·rcases mem_cons.1 hd with rfl | hd
   ·exact ⟨top, mem_cons_of_mem _ h.tp.1, by omega, hx⟩
   ·obtain ⟨x, h2, h3, h4⟩ := h.chs.nx d hd h1
    exact ⟨x, mem_cons_of_mem _ h2, h3, h4⟩
 have sn : ∀ d ∈ cs, ∀ m ∈ d.all, m.sn ≤ top.ep := fun d hd m hm => by have := ((h.chs.ok d hd).rg m hm).2.2.2; have := h.tp.2 d hd; omega
 have gd' : ∀ {m c}, tn m = some c → m.sn ≤ top.ep ∧ c.ep ≤ top.ep := fun {m c} hm => by
  obtain ⟨ch, h1, h2, h3⟩ := (h.ten m c hm).mem
  exact ⟨sn ch h1 m h2, h.ep_le hm⟩
 refine ⟨hC, ⟨mem_cons_self .., fun d hd => ?_⟩, fun m c hm => ?_, fun c hc => ?_, h.dom, h.dis, fun d hd d' hd' he k z hl hm hz => ?_, fun l hl => ?_, ?_⟩
 ·rcases mem_cons.1 hd with rfl | hd
  ·exact Int.le_refl _
  ·exact Int.le_of_lt (hlt d hd)
 ·have t := h.ten m c hm
  obtain ⟨x, h1, h2⟩ := t.co
  obtain ⟨y, h3, h4, h5⟩ := t.mem
  obtain ⟨g1, g2⟩ := gd' hm
  exact ⟨t.ok, t.id, ⟨x, mem_cons_of_mem _ h1, h2⟩, ⟨y, mem_cons_of_mem _ h3, h4, h5⟩, t.good.new hC h.okTn N g1 g2⟩
 ·have n := h.cur c hc
  obtain ⟨g1, g2⟩ := gd' n.nt
  exact ⟨n.nt, n.ak, n.st.new hC h.okTn N g2, fun ch h1 h2 h3 => (n.bs ch h1 h2 h3).new hC h.okTn N g2, n.me, n.st1, n.ak1, n.ow1⟩
 ·rcases mem_cons.1 hd' with rfl | hd'
  ·have : d = top := hC.un d hd top (mem_cons_of_mem _ h.tp.1) (by omega)
   subst this
   obtain ⟨cz, h1, h2, -⟩ := hg k z hl hm hz
   exact ⟨cz, h1, by omega⟩
  ·rcases mem_cons.1 hd with e1 | k1
   ·have := hlt d' hd'; rw [e1] at he; omega
   ·exact h.grow d k1 d' hd' he k z hl hm hz
 ·have hL := h.ml l hl
  unfold LtI at hL ⊢
  split
  ·rename_i hf
   rw [if_pos hf] at hL
   obtain ⟨ch, hc, p, j, P, g1, g2, g3, g4, g5, g6, g7⟩ := hL
   exact ⟨ch, mem_cons_of_mem _ hc, p, j, P, g1, g2, g3, g4, g5, g6, g7.new hC h.okTn N (sn ch hc j g2.mem2) (by have := h.tp.2 ch hc; omega)⟩
  ·rename_i hf
   rw [if_neg hf] at hL
   obtain ⟨ch, hc, z, q, L, g1, g2, g3, g4, g5, g6, g7, g8, g9, g10⟩ := hL
   have hle : l.ep ≤ top.ep := by have := h.tp.2 ch hc; omega
   exact ⟨ch, mem_cons_of_mem _ hc, z, q, L, g1, g2, g3, g4, g5, g6, g7.new hC h.okTn N (sn ch hc q g2.mem2) hle, g8, g9.new hC h.okTn N hle, fun hl => (g10 hl).new hC h.okTn N hle⟩
 ·obtain ⟨e, he, hp⟩ := h.gd
  exact ⟨e, by omega, hp.new hC h.okTn N he⟩
end
end Go.Proofs.YtejfahjgfedliaaGreat

namespace Go.Proofs.YtejfahjgfedliaaGreat
open Go Go.Sl Go.Proofs.Tryz
def CS.nxt (s : CS) : Int × Bool := if behindO s.co s.nd < 0 ∨ s.du = 0 then (0, false) else if s.ak < s.du then (s.ak + 1, true) else if s.st < s.du then (s.du, true) else (0, false)
set_option maxRecDepth 10000 in
theorem cnext_ct {s : CS} (ok : CsOk s) (h0 : 0 ≤ s.ak) (b : Nat) (v : Value) : Ct prog 86 [.pointer (some ⟨b, 0, none⟩)] [CsBk b s v] (fun r H' => r = .tuple #[.int .i64 s.nxt.1, .bool s.nxt.2] ∧ H' = [CsBk b s v]) := by
 have hbh := behind_ct ok.co s.nd
 have hd := ok.du
 have hl := ok.len
 have hlen : s.len = (s.lg.length : Int) := rfl
 unfold CS.nxt
 generalize behindO s.co s.nd = bh at hbh ⊢
 have fin : ∀ {r : Int × Bool} {r' : Int × Bool}, r = r' → Ct prog 86 [.pointer (some ⟨b, 0, none⟩)] [CsBk b s v] (fun x H' => x = .tuple #[.int .i64 r'.1, .bool r'.2] ∧ H' = [CsBk b s v]) → Ct prog 86 [.pointer (some ⟨b, 0, none⟩)] [CsBk b s v] (fun x H' => x = .tuple #[.int .i64 r.1, .bool r.2] ∧ H' = [CsBk b s v]) := fun e h => by rw [e]; exact h
 by_cases h1 : bh < 0
 ·refine fin (if_pos (.inl h1)) ?_
  refine Ct.mk' func86 rfl rfl rfl (fun g R => ?_)
  try simp only [ca]
  simp only [na]
  try refine runS ?_
  refine W.quiet Tryz.mix (by kernel_rfl) ?_
  repeat' (first | refine runS ?_ | refine lAN (s.cells v) (cfO s.co).enc rfl ?_ | refine WX.callQ rfl hbh rfl ?_ | fail)
  exact D.fin2 [CsBk b s v] _ rfl rfl rfl ⟨rfl, rfl⟩
 by_cases h2 : s.du = 0
 ·refine fin (if_pos (.inr h2)) ?_
  refine Ct.mk' func86 rfl rfl rfl (fun g R => ?_)
  try simp only [ca]
  simp only [na]
  try refine runS ?_
  refine W.quiet Tryz.mix (by kernel_rfl) ?_
  repeat' (first | refine runS ?_ | refine lAN (s.cells v) (cfO s.co).enc rfl ?_ | refine WX.callQ rfl hbh rfl ?_ | fail)
  exact D.fin2 [CsBk b s v] _ rfl rfl rfl ⟨rfl, rfl⟩
 have h12 : ¬ (bh < 0 ∨ s.du = 0) := by omega
 by_cases h3 : s.ak < s.du
 ·refine fin ((if_neg h12).trans (if_pos h3)) ?_
  refine Ct.mk' func86 rfl rfl rfl (fun g R => ?_)
  try simp only [ca]
  simp only [na]
  try refine runS ?_
  refine W.quiet Tryz.mix (by kernel_rfl) ?_
  repeat' (first | refine runS ?_ | refine lAN (s.cells v) (cfO s.co).enc rfl ?_ | refine WX.callQ rfl hbh rfl ?_ | fail)
  refine W.quiet Tryz.mix (by kernel_rfl) ?_
  try refine runS ?_
  exact D.fin2 [CsBk b s v] _ rfl rfl rfl ⟨rfl, rfl⟩
 by_cases h4 : s.st < s.du
 ·refine fin ((if_neg h12).trans ((if_neg h3).trans (if_pos h4))) ?_
  refine Ct.mk' func86 rfl rfl rfl (fun g R => ?_)
  try simp only [ca]
  simp only [na]
  try refine runS ?_
  refine W.quiet Tryz.mix (by kernel_rfl) ?_
  repeat' (first | refine runS ?_ | refine lAN (s.cells v) (cfO s.co).enc rfl ?_ | refine WX.callQ rfl hbh rfl ?_ | fail)
  refine W.quiet Tryz.mix (by kernel_rfl) ?_
  try refine runS ?_
  refine W.quiet Tryz.mix (by kernel_rfl) ?_
  try refine runS ?_
  exact D.fin2 [CsBk b s v] _ rfl rfl rfl ⟨rfl, rfl⟩
 ·refine fin ((if_neg h12).trans ((if_neg h3).trans (if_neg h4))) ?_
  refine Ct.mk' func86 rfl rfl rfl (fun g R => ?_)
  try simp only [ca]
  simp only [na]
  try refine runS ?_
  refine W.quiet Tryz.mix (by kernel_rfl) ?_
  repeat' (first | refine runS ?_ | refine lAN (s.cells v) (cfO s.co).enc rfl ?_ | refine WX.callQ rfl hbh rfl ?_ | fail)
  refine W.quiet Tryz.mix (by kernel_rfl) ?_
  try refine runS ?_
  refine W.quiet Tryz.mix (by kernel_rfl) ?_
  try refine runS ?_
  exact D.fin2 [CsBk b s v] _ rfl rfl rfl ⟨rfl, rfl⟩
def CS.cgt (s : CS) : Bool := decide (s.last) && (cfO s.co).jo && decide (s.bs ≤ s.ak)
theorem ccaught_ct {s : CS} (ok : CsOk s) (b : Nat) (v : Value) : Ct prog 135 [.pointer (some ⟨b, 0, none⟩)] [CsBk b s v] (fun r H' => r = .bool s.cgt ∧ H' = [CsBk b s v]) := by
 have hil := isLast_ct ok.co b v
 unfold CS.cgt
 by_cases h1 : s.last
 ·rw [decide_eq_true h1] at hil ⊢
  obtain ⟨jo, hj⟩ : ∃ jo, (cfO s.co).jo = jo := ⟨_, rfl⟩
  rw [hj]
  refine Ct.mk' func135 rfl rfl rfl (fun g R => ?_)
  try simp only [ca]
  simp only [na]
  try refine runS ?_
  refine W.quiet Tryz.mix (by kernel_rfl) ?_
  repeat' (first | refine runS ?_ | refine WX.callQ rfl hil rfl ?_ | fail)
  refine WX.as 12 (.bool jo) rfl (by rw [← hj]) ?_
  cases jo
  all_goals
   try refine runS ?_
   exact D.fin1 [CsBk b s v] _ rfl rfl ⟨rfl, rfl⟩
 ·rw [decide_eq_false h1] at hil ⊢
  refine Ct.mk' func135 rfl rfl rfl (fun g R => ?_)
  try simp only [ca]
  simp only [na]
  try refine runS ?_
  refine W.quiet Tryz.mix (by kernel_rfl) ?_
  repeat' (first | refine runS ?_ | refine WX.callQ rfl hil rfl ?_ | fail)
  exact D.fin1 [CsBk b s v] _ rfl rfl ⟨rfl, rfl⟩
end Go.Proofs.YtejfahjgfedliaaGreat

namespace Go.Proofs.YtejfahjgfedliaaGreat
open Go Go.Sl Go.Proofs.Tryz List
structure Nl where
 b : Nat
 s : LSt
 h : Hp
instance : Enc Nl := ⟨1, fun n => [.pointer (some ⟨n.b, 0, none⟩)], fun _ => rfl, fun _ => rfl, by decide⟩
def nhp (ns : List Nl) : Hp := (ns.map (·.h)).flatten
theorem nhp_split {ns : List Nl} {k : Nat} {m : Nl} (hk : ns[k]? = some m) : nhp ns = nhp (ns.take k) ++ (m.h ++ nhp (ns.drop (k + 1))) := by
 obtain ⟨hl, rfl⟩ := List.getElem?_eq_some_iff.1 hk
 have e : ns.take k ++ ns[k] :: ns.drop (k + 1) = ns := by rw [← drop_eq_getElem_cons hl, take_append_drop]
 have : nhp (ns.take k ++ ns[k] :: ns.drop (k + 1)) = nhp (ns.take k) ++ (ns[k].h ++ nhp (ns.drop (k + 1))) := by
  unfold nhp; rw [map_append, map_cons, flatten_append, flatten_cons]
 rw [e] at this; exact this
theorem nhp_set {ns : List Nl} {k : Nat} {m m' : Nl} (hk : ns[k]? = some m) : nhp (ns.set k m') = nhp (ns.take k) ++ (m'.h ++ nhp (ns.drop (k + 1))) := by
 have hl := (List.getElem?_eq_some_iff.1 hk).1
 rw [nhp_split (ns := ns.set k m') (k := k) (m := m') (by rw [List.getElem?_set, if_pos rfl, if_pos hl])]
 rw [take_set_of_le (Nat.le_refl _), drop_set_of_lt (Nat.lt_succ_self _)]
instance : Enc Cfg := ⟨13, Cfg.enc, fun _ => rfl, fun _ => rfl, by decide⟩
def Lt.enc (l : Lt) : List Value := [.int .i64 l.fr, .int .i64 l.to, .int .i64 l.ep, .int .i64 l.ix, .bool l.fw] ++ (l.en.enc ++ [.int .i64 l.du, .int .i64 l.st])
instance : Enc Lt := ⟨27, Lt.enc, fun _ => rfl, fun _ => rfl, by decide⟩
abbrev WwBk (b : Nat) (vn vc vm vg : Value) : Hp := [(b, .cells (List.toArray [vn, vc, vm, vg]) 74 (0, 0))]
section
variable (b : Nat) (vn vc vm vg : Value)
theorem newest_ct {cl : List Ch} {c : Ch} (hl : cl.getLast? = some c) {hc : Hp} (hs : Rs (cl.map (·.cfg)) vc hc) (hn : cl.length ≤ 1000000) :
  Ct prog 37 [.pointer (some ⟨b, 0, none⟩)] [WwBk b vn vc vm vg, hc] (fun r H' => r = .agg (List.toArray c.cfg.enc) ∧ H' = [WwBk b vn vc vm vg, hc]) := by
 obtain ⟨p, k, rfl⟩ := hs.len
 have hm : (cl.map (·.cfg)).length = cl.length := length_map _
 have h0 : 0 < cl.length := by
  cases cl with
  | nil => cases hl
  | cons a t => simp
 have hx : (cl.map (·.cfg))[((cl.map (·.cfg)).length - 1 : Int).toNat]? = some c.cfg := by
  rw [hm, show ((cl.length : Int) - 1).toNat = cl.length - 1 by omega, List.getElem?_map, ← List.getLast?_eq_getElem?, hl]; rfl
 refine Ct.mk' func37 rfl rfl rfl (fun g R => ?_)
 try simp only [ca]
 simp only [na]
 repeat' (first | refine runS ?_ | refine al (fun _ => ?_) | fail)
 rename_i b2
 refine W.mixN 8 (List.replicate 12 true) [WwBk b vn (.slice p (cl.map (·.cfg)).length k) vm vg, hc] Tryz.mix (by kernel_rfl) ?_
 repeat' (first | refine runS ?_ | refine WX.loadEW rfl hs hx rfl rfl ?_ | refine sGW Cfg.z.enc c.cfg.enc rfl rfl ?_ | fail)
 exact D.finR1 [WwBk b vn (.slice p (cl.map (·.cfg)).length k) vm vg, hc] _ rfl (.cellA rfl rfl .nil) ⟨rfl, rfl⟩
theorem turn_ct {cl : List Cfg} {hc : Hp} (hs : IsSl 34 cl vc hc) (hn : cl.length ≤ 1000000) (x : Cfg) (fine : Bool) :
  Ct prog 73 [.pointer (some ⟨b, 0, none⟩), .agg (List.toArray x.enc), .bool fine] [WwBk b vn vc vm vg, hc]
   (fun r H' => r = .tuple #[] ∧ ∃ vc' hc', H' = [WwBk b vn vc' vm vg, hc'] ∧ IsSl 34 (if fine = true then cl ++ [x] else cl) vc' hc') := by
 have hr := hs.rs
 obtain ⟨p, k, rfl⟩ := hr.len
 refine Ct.mk' func73 rfl rfl rfl (fun g R => ?_)
 try simp only [ca]
 simp only [na]
 cases fine with
 | false =>
  repeat' (first | refine runS ?_ | refine bx rfl (fun _ => ?_) | fail)
  exact D.finE [WwBk b vn (.slice p cl.length k) vm vg, hc] _ rfl ⟨rfl, _, _, rfl, hs⟩
 | true =>
  repeat' (first | refine runS ?_ | refine bx rfl (fun _ => ?_) | fail)
  rename_i b4
  refine W.mixN 8 [true, true, true, true, true, true, false, false] [WwBk b vn (.slice p cl.length k) vm vg, CfBk b4 x] Tryz.mix (by kernel_rfl) ?_
  repeat' (first | refine runS ?_ | refine lAN (t := 34) x.enc x.enc rfl ?_ | fail)
  refine I.bs ?_
  refine WX.lit (ys := [x]) rfl rfl rfl rfl rfl rfl (by decide) rfl (fun v2 h2 hs2 => ?_)
  try refine runS ?_
  refine WX.app rfl rfl hs hs2.rs rfl rfl (by decide) (by simp only [length_cons, length_nil]; omega) rfl (fun v3 h3 hs3 => ?_)
  obtain ⟨p3, c3, e3⟩ := hs3.rs.len
  subst e3
  try refine run ?_
  exact D.finE [WwBk b vn (.slice p3 (cl ++ [x]).length c3) vm vg, h3] _ rfl ⟨rfl, _, _, rfl, hs3⟩
end
section
variable (b : Nat) (vn vc vm vg : Value)
set_option maxRecDepth 10000 in
set_option maxHeartbeats 1000000 in
theorem grownW_ct {cl : List Ch} {c : Ch} (hl : cl.getLast? = some c) {hc : Hp} (hs : Rs (cl.map (·.cfg)) vc hc) (hn : cl.length ≤ 1000000) {ns : List Nl} {hw : Hp} (hsn : Rs ns vn hw) (hnl : ns.length ≤ 1000000) (hN : ∀ n ∈ ns, IsLg n.s n.b n.h ∧ CsOk n.s.ch) :
  Ct prog 76 [.pointer (some ⟨b, 0, none⟩)] [WwBk b vn vc vm vg, hc, hw, nhp ns] (fun r H' => ∃ bo, r = .bool bo ∧ H' = [WwBk b vn vc vm vg, hc, hw, nhp ns] ∧ (bo = true → ∃ (i : Nat) (n : Nl), ns[i]? = some n ∧ n.s.isUp = true ∧ n.s.ch.ep = c.ep ∧ n.s.ch.cgt = true)) := by
 have hnw := newest_ct b vn vc vm vg hl hs hn
 obtain ⟨p, k, rfl⟩ := hsn.len
 refine Ct.mk' func76 rfl rfl rfl (fun g R => ?_)
 try simp only [ca]
 simp only [na]
 try refine runS ?_
 refine W.loop (α := Nat) (fun i => i ≤ ns.length) (fun i => [(0, .pointer (some ⟨b, 0, none⟩)), (3, .int .i64 (i : Int))]) (fun _ => [WwBk b (.slice p ns.length k) vc vm vg, hc, hw, nhp ns, R]) (fun i => ns.length - i) 0 (Nat.zero_le _) (by repeat (first | exact Fsub.nil | refine Fsub.cons rfl ?_)) (Hsub.of_picks inferInstance) ?_
 intro i hi
 by_cases hlt : i < ns.length
 ·obtain ⟨m, hm⟩ : ∃ m, ns[i]? = some m := ⟨_, List.getElem?_eq_getElem hlt⟩
  obtain ⟨hat, hok⟩ := hN m (mem_of_getElem? hm)
  obtain ⟨cb, d, w, v, hv, seg, t, hd, eh, at_⟩ := hat
  obtain ⟨u, hu⟩ : ∃ u, m.s.isUp = u := ⟨_, rfl⟩
  refine W.perm (H' := [WwBk b (.slice p ns.length k) vc vm vg, hc, hw, nhp (ns.take i), LgBk m.b cb m.s.c0.dc m.s.c0.rg m.s.c0.nd d w u, CsBk cb m.s.ch v, hv, WBk w d seg t, hd, nhp (ns.drop (i + 1)), R]) (List.Perm.of_eq (by simp [nhp_split hm, eh, hu])) ?_
  have hup := lup_ct m.b cb m.s.c0.dc m.s.c0.rg m.s.c0.nd d w u
  have hep := cepoch_ct m.s.ch cb v
  have hca := ccaught_ct hok cb v
  have hsn' : Rs ns (.slice p ns.length k) hw := hsn
  have back : ∀ {n L Q e}, D g Q e n L [WwBk b (.slice p ns.length k) vc vm vg, hc, hw, nhp ns, R] → D g Q e n L [WwBk b (.slice p ns.length k) vc vm vg, hc, hw, nhp (ns.take i), LgBk m.b cb m.s.c0.dc m.s.c0.rg m.s.c0.nd d w u, CsBk cb m.s.ch v, hv, WBk w d seg t, hd, nhp (ns.drop (i + 1)), R] :=
   fun h => D.perm (List.Perm.of_eq (by simp [nhp_split hm, eh, hu])) h
  cases u with
  | false =>
   repeat' (first | refine runS ?_ | refine WX.callQ rfl hup rfl ?_ | fail)
   refine back ?_
   exact D.rd (i + 1) (by omega) (by omega)
  | true =>
   by_cases he : (cfO m.s.ch.co).ep = c.ep
   ·cases hc2 : m.s.ch.cgt with
    | false =>
     rw [hc2] at hca
     repeat' (first | refine runS ?_ | refine WX.callQ rfl hup rfl ?_ | refine WX.callQ rfl hep rfl ?_ | refine WX.callQ rfl hnw rfl ?_ | refine WX.callQ rfl hca rfl ?_ | refine WX.fld (v := .int .i64 c.ep) rfl rfl rfl ?_ | fail)
     refine back ?_
     exact D.rd (i + 1) (by omega) (by omega)
    | true =>
     rw [hc2] at hca
     repeat' (first | refine runS ?_ | refine WX.callQ rfl hup rfl ?_ | refine WX.callQ rfl hep rfl ?_ | refine WX.callQ rfl hnw rfl ?_ | refine WX.callQ rfl hca rfl ?_ | refine WX.fld (v := .int .i64 c.ep) rfl rfl rfl ?_ | fail)
     refine back ?_
     exact D.fin1 [WwBk b (.slice p ns.length k) vc vm vg, hc, hw, nhp ns] _ rfl rfl ⟨true, rfl, rfl, fun _ => ⟨i, m, hm, hu, he, hc2⟩⟩
   ·repeat' (first | refine runS ?_ | refine WX.callQ rfl hup rfl ?_ | refine WX.callQ rfl hep rfl ?_ | refine WX.callQ rfl hnw rfl ?_ | refine WX.fld (v := .int .i64 c.ep) rfl rfl rfl ?_ | fail)
    refine back ?_
    exact D.rd (i + 1) (by omega) (by omega)
 ·obtain rfl : i = ns.length := by omega
  try refine runS ?_
  exact D.fin1 [WwBk b (.slice p ns.length k) vc vm vg, hc, hw, nhp ns] _ rfl rfl ⟨false, rfl, rfl, fun h => by cases h⟩
end
def sendC (c : CS) (a : Int) (fw : Bool) (ml : List Lt) : List Lt :=
 if c.ep = 0 ∨ 200 < ml.length then ml
 else if fw = true then (if c.nxt.2 = true then ml ++ [⟨a, behindO c.co a, c.ep, c.nxt.1, true, c.lg.getD (c.nxt.1.toNat - 1) Ent.z, 0, 0⟩] else ml)
 else if 0 ≤ aheadO c.co a then ml ++ [⟨a, aheadO c.co a, c.ep, 0, false, Ent.z, c.du, c.st⟩] else ml
def sendL (s : LSt) (a : Int) (fw : Bool) (ml : List Lt) : List Lt := match s with
 | .up _ c _ => sendC c a fw ml
 | .dn _ _ _ => ml
theorem nxt_at {c : CS} (ok : CsOk c) (h0 : 0 ≤ c.ak) (h : c.nxt.2 = true) : 0 ≤ behindO c.co c.nd ∧ 1 ≤ c.nxt.1 ∧ c.nxt.1 ≤ c.du := by
 have hd := ok.du
 unfold CS.nxt at h ⊢
 split at h
 ·cases h
 ·rename_i h1
  rw [if_neg h1]
  split at h
  ·rename_i h2; rw [if_pos h2]; refine ⟨by omega, by show 1 ≤ c.ak + 1; omega, by show c.ak + 1 ≤ c.du; omega⟩
  ·rename_i h2
   rw [if_neg h2]
   split at h
   ·rename_i h3; rw [if_pos h3]; refine ⟨by omega, by show 1 ≤ c.du; omega, Int.le_refl _⟩
   ·cases h
section
variable (b : Nat) (vn vc vm vg : Value)
set_option maxRecDepth 10000 in
set_option maxHeartbeats 2000000 in
theorem send_ct {ns : List Nl} {hw : Hp} (hsn : Rs ns vn hw) {a : Nat} {m : Nl} (hm : ns[a]? = some m) (hat : IsLg m.s m.b m.h) (hok : CsOk m.s.ch) (hak : 0 ≤ m.s.ch.ak) {ml : List Lt} {hl : Hp} (hsl : IsSl 129 ml vm hl) (hll : ml.length ≤ 1000) (fw : Bool) :
  Ct prog 41 [.pointer (some ⟨b, 0, none⟩), .int .i64 (a : Int), .bool fw] [WwBk b vn vc vm vg, hw, hl, nhp ns]
   (fun r H' => r = .tuple #[] ∧ ∃ vm' hl', H' = [WwBk b vn vc vm' vg, hw, hl', nhp ns] ∧ IsSl 129 (sendL m.s a fw ml) vm' hl') := by
 have hlr := hsl.rs
 obtain ⟨p, k, rfl⟩ := hsn.len
 obtain ⟨pm, km, rfl⟩ := hlr.len
 obtain ⟨cb, d, w, v, hv, seg, t, hd, eh, at_⟩ := hat
 have hsn' : Rs ns (.slice p ns.length k) hw := hsn
 cases hs : m.s with
 | dn l c q =>
  have hup : Ct prog 22 [.pointer (some ⟨m.b, 0, none⟩)] [LgBk m.b cb c.dc c.rg c.nd d w false] (fun r H' => r = .bool false ∧ H' = [LgBk m.b cb c.dc c.rg c.nd d w false]) := lup_ct m.b cb c.dc c.rg c.nd d w false
  refine Ct.mk' func41 rfl rfl rfl (fun g R => ?_)
  try simp only [ca]
  simp only [na]
  refine W.perm (H' := [WwBk b (.slice p ns.length k) vc (.slice pm ml.length km) vg, hw, hl, nhp (ns.take a), LgBk m.b cb c.dc c.rg c.nd d w false, CsBk cb m.s.ch v, hv, WBk w d seg t, hd, nhp (ns.drop (a + 1)), R]) (List.Perm.of_eq (by simp [nhp_split hm, eh, hs, LSt.c0, LSt.isUp])) ?_
  repeat' (first | refine runS ?_ | refine WX.callQ rfl hup rfl ?_ | fail)
  refine D.perm (H' := [WwBk b (.slice p ns.length k) vc (.slice pm ml.length km) vg, hw, hl, nhp ns, R]) (List.Perm.of_eq (by simp [nhp_split hm, eh, hs, LSt.c0, LSt.isUp])) ?_
  exact D.fin0 [WwBk b (.slice p ns.length k) vc (.slice pm ml.length km) vg, hw, hl, nhp ns] _ rfl ⟨rfl, _, _, rfl, hsl⟩
 | up l c t' =>
  rw [hs] at at_ hok hak
  have hok : CsOk c := hok
  have hak : 0 ≤ c.ak := hak
  have hslg : Rs c.lg v hv := (show IsSl 43 c.lg v hv from at_.sl).rs
  have hup : Ct prog 22 [.pointer (some ⟨m.b, 0, none⟩)] [LgBk m.b cb c.dc c.rg c.nd d w true] (fun r H' => r = .bool true ∧ H' = [LgBk m.b cb c.dc c.rg c.nd d w true]) := lup_ct m.b cb c.dc c.rg c.nd d w true
  have hep := cepoch_ct c cb v
  have hnx := cnext_ct hok hak cb v
  have hcf := cconfig_ct c cb v
  have hdu := cdur_ct c cb v
  have hst := cstab_ct c cb v
  have hbe := behind_ct hok.co (a : Int)
  have hah := ahead_ct hok.co (a : Int)
  have hd1 := hok.du
  have hd2 := hok.len
  have hlen : c.len = (c.lg.length : Int) := rfl
  have hax := nxt_at hok hak
  have hc := cat_ct c cb hslg (by omega)
  show Ct _ _ _ _ (fun r H' => r = .tuple #[] ∧ ∃ vm' hl', H' = [WwBk b (.slice p ns.length k) vc vm' vg, hw, hl', nhp ns] ∧ IsSl 129 (sendC c a fw ml) vm' hl')
  unfold sendC
  have fin : ∀ {x y : List Lt}, x = y → Ct prog 41 [.pointer (some ⟨b, 0, none⟩), .int .i64 (a : Int), .bool fw] [WwBk b (.slice p ns.length k) vc (.slice pm ml.length km) vg, hw, hl, nhp ns]
   (fun r H' => r = .tuple #[] ∧ ∃ vm' hl', H' = [WwBk b (.slice p ns.length k) vc vm' vg, hw, hl', nhp ns] ∧ IsSl 129 y vm' hl') → Ct prog 41 [.pointer (some ⟨b, 0, none⟩), .int .i64 (a : Int), .bool fw] [WwBk b (.slice p ns.length k) vc (.slice pm ml.length km) vg, hw, hl, nhp ns]
   (fun r H' => r = .tuple #[] ∧ ∃ vm' hl', H' = [WwBk b (.slice p ns.length k) vc vm' vg, hw, hl', nhp ns] ∧ IsSl 129 x vm' hl') := fun e h => by rw [e]; exact h
  by_cases h1 : (cfO c.co).ep = 0
  ·refine fin (if_pos (.inl h1)) ?_
   skip
   refine Ct.mk' func41 rfl rfl rfl (fun g R => ?_)
   try simp only [ca]
   simp only [na]
   refine W.perm (H' := [WwBk b (.slice p ns.length k) vc (.slice pm ml.length km) vg, hw, hl, nhp (ns.take a), LgBk m.b cb c.dc c.rg c.nd d w true, CsBk cb c v, hv, WBk w d seg t, hd, nhp (ns.drop (a + 1)), R]) (List.Perm.of_eq (by simp [nhp_split hm, eh, hs, LSt.c0, LSt.isUp, LSt.ch])) ?_
   repeat' (first | refine runS ?_ | refine WX.callQ rfl hup rfl ?_ | refine WX.callQ rfl hep rfl ?_ | fail)
   refine D.perm (H' := [WwBk b (.slice p ns.length k) vc (.slice pm ml.length km) vg, hw, hl, nhp ns, R]) (List.Perm.of_eq (by simp [nhp_split hm, eh, hs, LSt.c0, LSt.isUp, LSt.ch])) ?_
   first | exact D.fin0 [WwBk b (.slice p ns.length k) vc (.slice pm ml.length km) vg, hw, hl, nhp ns] _ rfl ⟨rfl, _, _, rfl, hsl⟩ | exact D.finE [WwBk b (.slice p ns.length k) vc (.slice pm ml.length km) vg, hw, hl, nhp ns] _ rfl ⟨rfl, _, _, rfl, hsl⟩
  by_cases h2 : 200 < ml.length
  ·refine fin (if_pos (.inr h2)) ?_
   skip
   refine Ct.mk' func41 rfl rfl rfl (fun g R => ?_)
   try simp only [ca]
   simp only [na]
   refine W.perm (H' := [WwBk b (.slice p ns.length k) vc (.slice pm ml.length km) vg, hw, hl, nhp (ns.take a), LgBk m.b cb c.dc c.rg c.nd d w true, CsBk cb c v, hv, WBk w d seg t, hd, nhp (ns.drop (a + 1)), R]) (List.Perm.of_eq (by simp [nhp_split hm, eh, hs, LSt.c0, LSt.isUp, LSt.ch])) ?_
   repeat' (first | refine runS ?_ | refine WX.callQ rfl hup rfl ?_ | refine WX.callQ rfl hep rfl ?_ | fail)
   refine D.perm (H' := [WwBk b (.slice p ns.length k) vc (.slice pm ml.length km) vg, hw, hl, nhp ns, R]) (List.Perm.of_eq (by simp [nhp_split hm, eh, hs, LSt.c0, LSt.isUp, LSt.ch])) ?_
   first | exact D.fin0 [WwBk b (.slice p ns.length k) vc (.slice pm ml.length km) vg, hw, hl, nhp ns] _ rfl ⟨rfl, _, _, rfl, hsl⟩ | exact D.finE [WwBk b (.slice p ns.length k) vc (.slice pm ml.length km) vg, hw, hl, nhp ns] _ rfl ⟨rfl, _, _, rfl, hsl⟩
  have h12 : ¬ (c.ep = 0 ∨ 200 < ml.length) := fun h => h.elim h1 h2
  cases fw with
  | true =>
   cases hn : c.nxt.2 with
   | false =>
    rw [hn] at hnx
    refine fin ((if_neg h12).trans ((if_pos rfl).trans (if_neg (by decide)))) ?_
    skip
    refine Ct.mk' func41 rfl rfl rfl (fun g R => ?_)
    try simp only [ca]
    simp only [na]
    refine W.perm (H' := [WwBk b (.slice p ns.length k) vc (.slice pm ml.length km) vg, hw, hl, nhp (ns.take a), LgBk m.b cb c.dc c.rg c.nd d w true, CsBk cb c v, hv, WBk w d seg t, hd, nhp (ns.drop (a + 1)), R]) (List.Perm.of_eq (by simp [nhp_split hm, eh, hs, LSt.c0, LSt.isUp, LSt.ch])) ?_
    repeat' (first | refine runS ?_ | refine WX.callQ rfl hup rfl ?_ | refine WX.callQ rfl hep rfl ?_ | refine WX.callQ rfl hnx rfl ?_ | fail)
    refine D.perm (H' := [WwBk b (.slice p ns.length k) vc (.slice pm ml.length km) vg, hw, hl, nhp ns, R]) (List.Perm.of_eq (by simp [nhp_split hm, eh, hs, LSt.c0, LSt.isUp, LSt.ch])) ?_
    first | exact D.fin0 [WwBk b (.slice p ns.length k) vc (.slice pm ml.length km) vg, hw, hl, nhp ns] _ rfl ⟨rfl, _, _, rfl, hsl⟩ | exact D.finE [WwBk b (.slice p ns.length k) vc (.slice pm ml.length km) vg, hw, hl, nhp ns] _ rfl ⟨rfl, _, _, rfl, hsl⟩
   | true =>
    rw [hn] at hnx
    obtain ⟨hx0, hx1, hx2⟩ := hax hn
    have hc := hc c.nxt.1 (by omega)
    rw [if_pos ⟨hx1, by omega⟩, decide_eq_true (show 1 ≤ c.nxt.1 ∧ c.nxt.1 ≤ c.len by omega)] at hc
    refine fin ((if_neg h12).trans ((if_pos rfl).trans (if_pos rfl))) ?_
    generalize c.nxt.1 = ix at *
    generalize c.lg.getD (ix.toNat - 1) Ent.z = e at *
    generalize behindO c.co (a : Int) = bh at *
    skip
    refine Ct.mk' func41 rfl rfl rfl (fun g R => ?_)
    try simp only [ca]
    simp only [na]
    refine W.perm (H' := [WwBk b (.slice p ns.length k) vc (.slice pm ml.length km) vg, hw, hl, nhp (ns.take a), LgBk m.b cb c.dc c.rg c.nd d w true, CsBk cb c v, hv, WBk w d seg t, hd, nhp (ns.drop (a + 1)), R]) (List.Perm.of_eq (by simp [nhp_split hm, eh, hs, LSt.c0, LSt.isUp, LSt.ch])) ?_
    repeat' (first | refine runS ?_ | refine al (fun _ => ?_) | refine WX.callQ rfl hup rfl ?_ | refine WX.callQ rfl hep rfl ?_ | refine WX.callQ rfl hnx rfl ?_ | refine WX.callQ rfl hc rfl ?_ | refine sGW Ent.z.enc e.enc rfl rfl ?_ | fail)
    rename_i b9
    refine W.mixT [true, true, true, true, true, true, true, true, true, true, false, true, false, true, true, true, true, false, true, true, true, false, false] [WwBk b (.slice p ns.length k) vc (.slice pm ml.length km) vg, LgBk m.b cb c.dc c.rg c.nd d w true, CsBk cb c v, EnBk b9 e] Tryz.mix (by kernel_rfl) ?_
    repeat' (first | refine runS ?_ | refine lAN (t := 43) e.enc e.enc rfl ?_ | refine WX.callQ rfl hcf rfl ?_ | refine WX.callQ rfl hbe rfl ?_ | refine WX.callQ rfl hep rfl ?_ | refine bdN (Lt.enc ⟨a, bh, (cfO c.co).ep, ix, true, e, 0, 0⟩) ?_ | fail)
    refine I.bs ?_
    refine WX.lit (ys := [(⟨a, bh, (cfO c.co).ep, ix, true, e, 0, 0⟩ : Lt)]) rfl rfl rfl rfl rfl rfl (by decide) rfl (fun v2 h2 hs2 => ?_)
    try refine runS ?_
    refine WX.app rfl rfl hsl hs2.rs rfl rfl (by decide) (by simp only [length_cons, length_nil]; omega) rfl (fun v3 h3 hs3 => ?_)
    obtain ⟨p3, k3, e3⟩ := hs3.rs.len
    subst e3
    try refine run ?_
    refine D.sub (H' := [WwBk b (.slice p ns.length k) vc (.slice p3 (ml ++ [(⟨a, bh, (cfO c.co).ep, ix, true, e, 0, 0⟩ : Lt)]).length k3) vg, hw, h3, nhp (ns.take a), LgBk m.b cb c.dc c.rg c.nd d w true, CsBk cb c v, hv, WBk w d seg t, hd, nhp (ns.drop (a + 1)), R]) (Fsub.refl _) (Hsub.of_picks inferInstance) ?_
    refine D.perm (H' := [WwBk b (.slice p ns.length k) vc (.slice p3 (ml ++ [(⟨a, bh, (cfO c.co).ep, ix, true, e, 0, 0⟩ : Lt)]).length k3) vg, hw, h3, nhp ns, R]) (List.Perm.of_eq (by simp [nhp_split hm, eh, hs, LSt.c0, LSt.isUp, LSt.ch])) ?_
    first | exact D.fin0 [WwBk b (.slice p ns.length k) vc (.slice p3 (ml ++ [(⟨a, bh, (cfO c.co).ep, ix, true, e, 0, 0⟩ : Lt)]).length k3) vg, hw, h3, nhp ns] _ rfl ⟨rfl, _, _, rfl, hs3⟩ | exact D.finE [WwBk b (.slice p ns.length k) vc (.slice p3 (ml ++ [(⟨a, bh, (cfO c.co).ep, ix, true, e, 0, 0⟩ : Lt)]).length k3) vg, hw, h3, nhp ns] _ rfl ⟨rfl, _, _, rfl, hs3⟩
  | false =>
   by_cases h3 : 0 ≤ aheadO c.co (a : Int)
   ·refine fin ((if_neg h12).trans ((if_neg (by decide)).trans (if_pos h3))) ?_
    generalize aheadO c.co (a : Int) = ah at *
    skip
    refine Ct.mk' func41 rfl rfl rfl (fun g R => ?_)
    try simp only [ca]
    simp only [na]
    refine W.perm (H' := [WwBk b (.slice p ns.length k) vc (.slice pm ml.length km) vg, hw, hl, nhp (ns.take a), LgBk m.b cb c.dc c.rg c.nd d w true, CsBk cb c v, hv, WBk w d seg t, hd, nhp (ns.drop (a + 1)), R]) (List.Perm.of_eq (by simp [nhp_split hm, eh, hs, LSt.c0, LSt.isUp, LSt.ch])) ?_
    repeat' (first | refine runS ?_ | refine WX.callQ rfl hup rfl ?_ | refine WX.callQ rfl hep rfl ?_ | refine WX.callQ rfl hcf rfl ?_ | refine WX.callQ rfl hah rfl ?_ | fail)
    refine W.mixT [true, true, true, true, true, true, true, true, true, true, true, false, true, true, true, true, false, true, true, true, true, false, true, false, false] [WwBk b (.slice p ns.length k) vc (.slice pm ml.length km) vg, LgBk m.b cb c.dc c.rg c.nd d w true, CsBk cb c v] Tryz.mix (by kernel_rfl) ?_
    repeat' (first | refine runS ?_ | refine WX.callQ rfl hep rfl ?_ | refine WX.callQ rfl hdu rfl ?_ | refine WX.callQ rfl hst rfl ?_ | refine bdN (Lt.enc ⟨a, ah, (cfO c.co).ep, 0, false, Ent.z, c.du, c.st⟩) ?_ | fail)
    refine I.bs ?_
    refine WX.lit (ys := [(⟨a, ah, (cfO c.co).ep, 0, false, Ent.z, c.du, c.st⟩ : Lt)]) rfl rfl rfl rfl rfl rfl (by decide) rfl (fun v2 h2 hs2 => ?_)
    try refine runS ?_
    refine WX.app rfl rfl hsl hs2.rs rfl rfl (by decide) (by simp only [length_cons, length_nil]; omega) rfl (fun v3 h3 hs3 => ?_)
    obtain ⟨p3, k3, e3⟩ := hs3.rs.len
    subst e3
    try refine run ?_
    refine D.sub (H' := [WwBk b (.slice p ns.length k) vc (.slice p3 (ml ++ [(⟨a, ah, (cfO c.co).ep, 0, false, Ent.z, c.du, c.st⟩ : Lt)]).length k3) vg, hw, h3, nhp (ns.take a), LgBk m.b cb c.dc c.rg c.nd d w true, CsBk cb c v, hv, WBk w d seg t, hd, nhp (ns.drop (a + 1)), R]) (Fsub.refl _) (Hsub.of_picks inferInstance) ?_
    refine D.perm (H' := [WwBk b (.slice p ns.length k) vc (.slice p3 (ml ++ [(⟨a, ah, (cfO c.co).ep, 0, false, Ent.z, c.du, c.st⟩ : Lt)]).length k3) vg, hw, h3, nhp ns, R]) (List.Perm.of_eq (by simp [nhp_split hm, eh, hs, LSt.c0, LSt.isUp, LSt.ch])) ?_
    first | exact D.fin0 [WwBk b (.slice p ns.length k) vc (.slice p3 (ml ++ [(⟨a, ah, (cfO c.co).ep, 0, false, Ent.z, c.du, c.st⟩ : Lt)]).length k3) vg, hw, h3, nhp ns] _ rfl ⟨rfl, _, _, rfl, hs3⟩ | exact D.finE [WwBk b (.slice p ns.length k) vc (.slice p3 (ml ++ [(⟨a, ah, (cfO c.co).ep, 0, false, Ent.z, c.du, c.st⟩ : Lt)]).length k3) vg, hw, h3, nhp ns] _ rfl ⟨rfl, _, _, rfl, hs3⟩
   ·refine fin ((if_neg h12).trans ((if_neg (by decide)).trans (if_neg h3))) ?_
    skip
    refine Ct.mk' func41 rfl rfl rfl (fun g R => ?_)
    try simp only [ca]
    simp only [na]
    refine W.perm (H' := [WwBk b (.slice p ns.length k) vc (.slice pm ml.length km) vg, hw, hl, nhp (ns.take a), LgBk m.b cb c.dc c.rg c.nd d w true, CsBk cb c v, hv, WBk w d seg t, hd, nhp (ns.drop (a + 1)), R]) (List.Perm.of_eq (by simp [nhp_split hm, eh, hs, LSt.c0, LSt.isUp, LSt.ch])) ?_
    repeat' (first | refine runS ?_ | refine WX.callQ rfl hup rfl ?_ | refine WX.callQ rfl hep rfl ?_ | refine WX.callQ rfl hcf rfl ?_ | refine WX.callQ rfl hah rfl ?_ | fail)
    refine D.perm (H' := [WwBk b (.slice p ns.length k) vc (.slice pm ml.length km) vg, hw, hl, nhp ns, R]) (List.Perm.of_eq (by simp [nhp_split hm, eh, hs, LSt.c0, LSt.isUp, LSt.ch])) ?_
    first | exact D.fin0 [WwBk b (.slice p ns.length k) vc (.slice pm ml.length km) vg, hw, hl, nhp ns] _ rfl ⟨rfl, _, _, rfl, hsl⟩ | exact D.finE [WwBk b (.slice p ns.length k) vc (.slice pm ml.length km) vg, hw, hl, nhp ns] _ rfl ⟨rfl, _, _, rfl, hsl⟩
end
structure Dd where
 (k a b n : Int)
 tw : Bool
 (key val : ByteArray)
def Dd.enc (d : Dd) : List Value := [.int .i64 d.k, .int .i64 d.a, .int .i64 d.b, .int .i64 d.n, .bool d.tw, .string d.key, .string d.val]
instance : Enc Dd := ⟨7, Dd.enc, fun _ => rfl, fun _ => rfl, by decide⟩
def Lt.z : Lt := ⟨0, 0, 0, 0, false, Ent.z, 0, 0⟩
def among (i : Int) (n : Nat) : Nat := ((i.tmod n + n).tmod n).toNat
theorem among_ok (i : Int) {n : Nat} (h : 0 < n) : -(n : Int) < i.tmod n ∧ i.tmod n < n ∧ (i.tmod n + n).tmod n = ((among i n : Nat) : Int) ∧ among i n < n := by
 have h1 : i.tmod n < n := Int.tmod_lt_of_pos i (by omega)
 have h2 : -(n : Int) < i.tmod n := Int.neg_lt_of_neg_lt (by
  have : (-i).tmod n < n := Int.tmod_lt_of_pos (-i) (by omega)
  rw [Int.neg_tmod] at this; exact this)
 have h3 : 0 ≤ (i.tmod n + n).tmod n := Int.tmod_nonneg _ (by omega)
 have h4 : (i.tmod n + n).tmod n < n := Int.tmod_lt_of_pos _ (by omega)
 unfold among
 exact ⟨h2, h1, by omega, by omega⟩
def recvL (s : LSt) (l : Lt) : LSt := if l.fw = true then (s.take l.fr l.ep l.ix l.en).2 else (s.heard l.fr l.ep l.du l.st).2
def comeM (d : Dd) (ml : List Lt) : List Lt := if d.tw = false ∨ d.k = 6 then ml.eraseIdx (among d.n ml.length) else ml
def comeS (d : Dd) (ml : List Lt) (ss : List LSt) : List LSt := match ml[among d.n ml.length]? with
 | none => ss
 | some l => if d.k = 6 ∨ (ss.length : Int) ≤ l.to then ss else match ss[l.to.toNat]? with
  | none => ss
  | some s => ss.set l.to.toNat (recvL s l)
theorem rs_encs {xs ys : List Nl} {v : Value} {h : Hp} (hs : Rs xs v h) (e : xs.map (·.b) = ys.map (·.b)) : Rs ys v h := by
 obtain ⟨a, c, rfl, le, f⟩ := hs
 have hl : xs.length = ys.length := by have := congrArg List.length e; simpa using this
 refine ⟨a, c, by rw [hl], by omega, fun k y hk => ?_⟩
 obtain ⟨x, hx⟩ : ∃ x, xs[k]? = some x := ⟨_, List.getElem?_eq_getElem (by have := (List.getElem?_eq_some_iff.1 hk).1; omega)⟩
 have hxy : x.b = y.b := by
  have := congrArg (fun l => l[k]?) e
  simp only [List.getElem?_map, hx, hk, Option.map_some] at this
  exact Option.some.inj this
 obtain ⟨b, off, e1, e2⟩ := f k x hx
 refine ⟨b, off, e1, fun j u hu => e2 j u ?_⟩
 have : Enc.enc x = Enc.enc y := by show [Value.pointer (some ⟨x.b, 0, none⟩)] = [Value.pointer (some ⟨y.b, 0, none⟩)]; rw [hxy]
 rw [this]; exact hu
structure Nds (ss : List LSt) (ns : List Nl) (vn : Value) (hw : Hp) : Prop where
 ss : ns.map (·.s) = ss
 rs : Rs ns vn hw
 at_ : ∀ n ∈ ns, IsLg n.s n.b n.h
theorem Nds.set {ss : List LSt} {ns : List Nl} {vn : Value} {hw : Hp} (h : Nds ss ns vn hw) {i : Nat} {m : Nl} (hm : ns[i]? = some m) {s' : LSt} {h' : Hp} (hl : IsLg s' m.b h') : Nds (ss.set i s') (ns.set i ⟨m.b, s', h'⟩) vn hw := by
 refine ⟨by rw [List.map_set, h.ss], rs_encs h.rs ?_, fun n hn => ?_⟩
 ·rw [List.map_set]
  obtain ⟨hi, rfl⟩ := List.getElem?_eq_some_iff.1 hm
  have : ns[i].b = (ns.map (·.b))[i]'(by simpa using hi) := by simp
  rw [this]; exact (set_getElem_self _).symm
 ·obtain ⟨j, hj⟩ := mem_iff_getElem?.1 hn
  rw [List.getElem?_set] at hj
  split at hj
  ·split at hj
   ·cases hj; exact hl
   ·cases hj
  ·exact h.at_ n (mem_of_getElem? hj)
theorem rs_cap {xs : List Lt} {p : Option Addr} {l c : Nat} {h : Hp} (hs : Rs xs (.slice p l c) h) : xs.length ≤ c := by
 obtain ⟨a, c', e, le, -⟩ := hs
 cases e; exact le
abbrev DdBk (b : Nat) (d : Dd) : Hp := [(b, .cells (List.toArray d.enc) 68 (0, 0))]
abbrev LtBk (b : Nat) (l : Lt) : Hp := [(b, .cells (List.toArray l.enc) 129 (0, 0))]
section
variable (b : Nat) (vn vc vm vg : Value)
set_option maxRecDepth 10000 in
set_option maxHeartbeats 2000000 in
theorem come_ct {ss : List LSt} {ns : List Nl} {hw : Hp} (hN : Nds ss ns vn hw) {N : Int} (hok : ∀ s ∈ ss, s.ok N) (hN1 : N < 1099511627776) {ml : List Lt} {hl : Hp} (hsl : IsSl 129 ml vm hl) (hll : ml.length ≤ 1000) (hto : ∀ l ∈ ml, 0 ≤ l.to) (d : Dd) (hnl : ns.length ≤ 1000)
  (hd1 : -9223372036854775808 ≤ d.n ∧ d.n ≤ 9223372036854775807) :
  Ct prog 42 [.pointer (some ⟨b, 0, none⟩), .agg (List.toArray d.enc)] [WwBk b vn vc vm vg, hw, hl, nhp ns]
   (fun r H' => r = .tuple #[] ∧ ∃ vm' hl' ns', H' = [WwBk b vn vc vm' vg, hw, hl', nhp ns'] ∧ IsSl 129 (comeM d ml) vm' hl' ∧ Nds (comeS d ml ss) ns' vn hw) := by
 have hlr := hsl.rs
 have hsn := hN.rs
 obtain ⟨p, k, rfl⟩ := hsn.len
 obtain ⟨pm, km, rfl⟩ := hlr.len
 have hsn' : Rs ns (.slice p ns.length k) hw := hsn
 have hlr' : Rs ml (.slice pm ml.length km) hl := hlr
 have hss : ss.length = ns.length := by rw [← hN.ss, length_map]
 by_cases h0 : ml.length = 0
 ·have he : ml = [] := length_eq_zero_iff.1 h0
  have e1 : comeM d ml = ml := by unfold comeM; rw [he]; split <;> rfl
  have e2 : comeS d ml ss = ss := by unfold comeS; rw [he]; rfl
  rw [e1, e2]
  refine Ct.mk' func42 rfl rfl rfl (fun g R => ?_)
  try simp only [ca]
  simp only [na]
  repeat' (first | refine runS ?_ | refine bx rfl (fun _ => ?_) | fail)
  exact D.fin0 [WwBk b (.slice p ns.length k) vc (.slice pm ml.length km) vg, hw, hl, nhp ns] _ rfl ⟨rfl, _, _, ns, rfl, hsl, hN⟩
 ·obtain ⟨a1, a2, a3, a4⟩ := among_ok d.n (n := ml.length) (by omega)
  obtain ⟨SS, hSS⟩ : ∃ SS, comeS d ml ss = SS := ⟨_, rfl⟩
  rw [hSS]
  unfold comeM
  generalize hK : among d.n ml.length = K at *
  obtain ⟨l, hlk⟩ : ∃ l, ml[K]? = some l := ⟨_, List.getElem?_eq_getElem a4⟩
  have hl0 := hto l (mem_of_getElem? hlk)
  obtain ⟨tw, htw⟩ : ∃ tw, d.tw = tw := ⟨_, rfl⟩
  rw [htw]
  have hcap : ml.length ≤ km := rs_cap hlr'
  have hrf := hlr'.from (m := 27) rfl (lo := K + 1) (by omega)
  refine Ct.mk' func42 rfl rfl rfl (fun g R => ?_)
  try simp only [ca]
  simp only [na]
  repeat' (first | refine runS ?_ | refine bx rfl (fun _ => ?_) | fail)
  rename_i b3
  refine W.quiet Tryz.mix (by kernel_rfl) ?_
  repeat' (first | refine runS ?_ | refine re ?_ | fail)
  refine WX.as 4 (.int .i64 (K : Int)) rfl (by rw [a3]) ?_
  refine WX.as 37 (.int .i64 (K : Int)) rfl (by rw [a3]) ?_
  by_cases h6 : d.k = 6
  ·have eS : SS = ss := by rw [← hSS]; unfold comeS; rw [hK, hlk]; exact if_pos (.inl h6)
   rw [if_pos (.inr h6), eS]
   cases tw
   all_goals
    repeat' (first | refine runS ?_ | refine al (fun _ => ?_) | refine WX.loadEW rfl hlr' hlk rfl rfl ?_ | refine sGW Lt.z.enc l.enc rfl rfl ?_ | fail)
    rename_i b5
    refine WX.as 43 (.bool (!_)) rfl (by rw [htw]) ?_
    try refine runS ?_
    refine W.mixN 8 [true, false, true, true, true, true, true, true, false, true, true, true, true, true, true, true, false] [WwBk b (.slice p ns.length k) vc (.slice pm ml.length km) vg] Tryz.mix (by kernel_rfl) ?_
    try refine runS ?_
    refine I.bs ?_
    refine WX.lit (ys := ([] : List Lt)) (vs := []) rfl rfl rfl rfl rfl rfl (by decide) rfl (fun v1 h1 hs1 => ?_)
    try refine runS ?_
    refine WX.app rfl rfl hs1 (hlr'.take (m := K) (by omega)) rfl rfl (by decide) (by simp only [length_nil, length_take]; omega) rfl (fun v2 h2 hs2 => ?_)
    try refine runS ?_
    refine WX.cutFrom (lo := K + 1) rfl rfl (by omega) hcap rfl ?_
    try refine runS ?_
    refine WX.app rfl rfl hs2 hrf rfl rfl (by decide) (by simp only [length_nil, length_append, length_take, length_drop]; omega) rfl (fun v3 h3 hs3 => ?_)
    rw [nil_append, ← eraseIdx_eq_take_drop_succ] at hs3
    obtain ⟨p3, k3, e3⟩ := hs3.rs.len
    subst e3
    try refine run ?_
    refine W.quiet Tryz.mix (by kernel_rfl) ?_
    try refine runS ?_
    exact D.fin0 [WwBk b (.slice p ns.length k) vc (.slice p3 (ml.eraseIdx K).length k3) vg, hw, h3, nhp ns] _ rfl ⟨rfl, _, _, ns, rfl, hs3, hN⟩
  ·cases tw
   ·rw [if_pos (.inl rfl)]
    repeat' (first | refine runS ?_ | refine al (fun _ => ?_) | refine WX.loadEW rfl hlr' hlk rfl rfl ?_ | refine sGW Lt.z.enc l.enc rfl rfl ?_ | fail)
    rename_i b5
    refine WX.as 43 (.bool (!_)) rfl (by rw [htw]) ?_
    try refine runS ?_
    refine W.mixN 8 [true, false, true, true, true, true, true, true, false, true, true, true, true, true, true, true, false] [WwBk b (.slice p ns.length k) vc (.slice pm ml.length km) vg] Tryz.mix (by kernel_rfl) ?_
    try refine runS ?_
    refine I.bs ?_
    refine WX.lit (ys := ([] : List Lt)) (vs := []) rfl rfl rfl rfl rfl rfl (by decide) rfl (fun v1 h1 hs1 => ?_)
    try refine runS ?_
    refine WX.app rfl rfl hs1 (hlr'.take (m := K) (by omega)) rfl rfl (by decide) (by simp only [length_nil, length_take]; omega) rfl (fun v2 h2 hs2 => ?_)
    try refine runS ?_
    refine WX.cutFrom (lo := K + 1) rfl rfl (by omega) hcap rfl ?_
    try refine runS ?_
    refine WX.app rfl rfl hs2 hrf rfl rfl (by decide) (by simp only [length_nil, length_append, length_take, length_drop]; omega) rfl (fun v3 h3 hs3 => ?_)
    rw [nil_append, ← eraseIdx_eq_take_drop_succ] at hs3
    obtain ⟨p3, k3, e3⟩ := hs3.rs.len
    subst e3
    try refine run ?_
    refine W.quiet Tryz.mix (by kernel_rfl) ?_
    by_cases h7 : (ns.length : Int) ≤ l.to
    ·have eS : SS = ss := by rw [← hSS]; unfold comeS; rw [hK, hlk]; exact if_pos (.inr (by rw [hss]; exact h7))
     rw [eS]
     try refine runS ?_
     exact D.fin0 [WwBk b (.slice p ns.length k) vc (.slice p3 ((ml.eraseIdx K)).length k3) vg, hw, h3, nhp ns] _ rfl ⟨rfl, _, _, ns, rfl, hs3, hN⟩
    obtain ⟨m, hm⟩ : ∃ m, ns[l.to.toNat]? = some m := ⟨_, List.getElem?_eq_getElem (by omega)⟩
    have hms : ss[l.to.toNat]? = some m.s := by rw [← hN.ss, List.getElem?_map, hm]; rfl
    have eS : SS = ss.set l.to.toNat (recvL m.s l) := by rw [← hSS]; unfold comeS; rw [hK, hlk]; simp only []; rw [if_neg (show ¬ (d.k = 6 ∨ (ss.length : Int) ≤ l.to) by rw [hss]; omega), hms]
    rw [eS]
    have hlm := hN.at_ m (mem_of_getElem? hm)
    have okm := hok m.s (mem_of_getElem? hms)
    try refine runS ?_
    refine W.quiet Tryz.mix (by kernel_rfl) ?_
    try refine runS ?_
    refine W.sub (H' := [LtBk b5 l, WwBk b (.slice p ns.length k) vc (.slice p3 ((ml.eraseIdx K)).length k3) vg, hw, h3, nhp ns, R]) (Fsub.refl _) (Hsub.of_picks inferInstance) ?_
    refine W.perm (H' := [LtBk b5 l, WwBk b (.slice p ns.length k) vc (.slice p3 ((ml.eraseIdx K)).length k3) vg, hw, h3, nhp (ns.take l.to.toNat), m.h, nhp (ns.drop (l.to.toNat + 1)), R]) (List.Perm.of_eq (by simp [nhp_split hm])) ?_
    cases hfw : l.fw with
    | true =>
     have e9 : recvL m.s l = (m.s.take l.fr l.ep l.ix l.en).2 := if_pos hfw
     rw [e9]
     repeat' (first | refine runS ?_ | refine lAN (t := 43) l.enc l.en.enc rfl ?_ | fail)
     refine WX.call rfl (lgtake_ct okm hlm l.fr l.ep l.ix l.en) rfl ?_
     rintro _ _ ⟨rfl, h', rfl, hl'⟩
     simp only [ca, na]
     try refine runS ?_
     refine D.sub (H' := [WwBk b (.slice p ns.length k) vc (.slice p3 ((ml.eraseIdx K)).length k3) vg, hw, h3, nhp (ns.take l.to.toNat), h', nhp (ns.drop (l.to.toNat + 1)), R]) (Fsub.refl _) (Hsub.of_picks inferInstance) ?_
     refine D.perm (H' := [WwBk b (.slice p ns.length k) vc (.slice p3 ((ml.eraseIdx K)).length k3) vg, hw, h3, nhp (ns.set l.to.toNat ⟨m.b, (m.s.take l.fr l.ep l.ix l.en).2, h'⟩), R]) (List.Perm.of_eq (by simp [nhp_set hm])) ?_
     first | exact D.finE [WwBk b (.slice p ns.length k) vc (.slice p3 ((ml.eraseIdx K)).length k3) vg, hw, h3, nhp (ns.set l.to.toNat ⟨m.b, (m.s.take l.fr l.ep l.ix l.en).2, h'⟩)] _ rfl ⟨rfl, _, _, _, rfl, hs3, hN.set hm hl'⟩ | exact D.fin0 [WwBk b (.slice p ns.length k) vc (.slice p3 ((ml.eraseIdx K)).length k3) vg, hw, h3, nhp (ns.set l.to.toNat ⟨m.b, (m.s.take l.fr l.ep l.ix l.en).2, h'⟩)] _ rfl ⟨rfl, _, _, _, rfl, hs3, hN.set hm hl'⟩
    | false =>
     have e9 : recvL m.s l = (m.s.heard l.fr l.ep l.du l.st).2 := if_neg (by rw [hfw]; decide)
     rw [e9]
     have hup := lgup_ct hlm
     cases hs : m.s with
     | dn l0 c q =>
      rw [hs] at hup
      have hup : Ct prog 22 [.pointer (some ⟨m.b, 0, none⟩)] [m.h] (fun r H' => r = .bool false ∧ H' = [m.h]) := hup
      repeat' (first | refine runS ?_ | refine WX.callQ rfl hup rfl ?_ | fail)
      rw [hs] at hlm
      have hl' : IsLg ((LSt.dn l0 c q).heard l.fr l.ep l.du l.st).2 m.b m.h := hlm
      refine D.sub (H' := [WwBk b (.slice p ns.length k) vc (.slice p3 ((ml.eraseIdx K)).length k3) vg, hw, h3, nhp (ns.take l.to.toNat), m.h, nhp (ns.drop (l.to.toNat + 1)), R]) (Fsub.refl _) (Hsub.of_picks inferInstance) ?_
      refine D.perm (H' := [WwBk b (.slice p ns.length k) vc (.slice p3 ((ml.eraseIdx K)).length k3) vg, hw, h3, nhp (ns.set l.to.toNat ⟨m.b, ((LSt.dn l0 c q).heard l.fr l.ep l.du l.st).2, m.h⟩), R]) (List.Perm.of_eq (by simp [nhp_set hm])) ?_
      first | exact D.finE [WwBk b (.slice p ns.length k) vc (.slice p3 ((ml.eraseIdx K)).length k3) vg, hw, h3, nhp (ns.set l.to.toNat ⟨m.b, ((LSt.dn l0 c q).heard l.fr l.ep l.du l.st).2, m.h⟩)] _ rfl ⟨rfl, _, _, _, rfl, hs3, hN.set hm hl'⟩ | exact D.fin0 [WwBk b (.slice p ns.length k) vc (.slice p3 ((ml.eraseIdx K)).length k3) vg, hw, h3, nhp (ns.set l.to.toNat ⟨m.b, ((LSt.dn l0 c q).heard l.fr l.ep l.du l.st).2, m.h⟩)] _ rfl ⟨rfl, _, _, _, rfl, hs3, hN.set hm hl'⟩
     | up l0 c t' =>
      rw [hs] at hup okm hlm
      have hup : Ct prog 22 [.pointer (some ⟨m.b, 0, none⟩)] [m.h] (fun r H' => r = .bool true ∧ H' = [m.h]) := hup
      repeat' (first | refine runS ?_ | refine WX.callQ rfl hup rfl ?_ | fail)
      obtain ⟨cb, dd, w, v, hv, seg, t, hd, eh, at_⟩ := hlm
      have hl' : IsLg ((LSt.up l0 c t').heard l.fr l.ep l.du l.st).2 m.b (LgBk m.b cb c.dc c.rg c.nd dd w true ++ (CsBk cb (c.heard l.fr l.ep l.du l.st).2 v ++ (hv ++ (WBk w dd seg t ++ hd)))) := IsLg.heard at_ l.fr l.ep l.du l.st
      have okc : CsOk c := okm.ch
      refine W.perm (H' := [LtBk b5 l, WwBk b (.slice p ns.length k) vc (.slice p3 ((ml.eraseIdx K)).length k3) vg, hw, h3, nhp (ns.take l.to.toNat), LgBk m.b cb c.dc c.rg c.nd dd w true, CsBk cb c v, hv, WBk w dd seg t, hd, nhp (ns.drop (l.to.toNat + 1)), R]) (List.Perm.of_eq (by simp [eh, LSt.c0, LSt.isUp, LSt.ch])) ?_
      refine W.mixN 8 (List.replicate 12 true) [LtBk b5 l, LgBk m.b cb c.dc c.rg c.nd dd w true] Tryz.mix (by kernel_rfl) ?_
      try refine runS ?_
      refine WX.call rfl (cheard_ct okc cb v l.fr l.ep l.du l.st) rfl ?_
      rintro _ _ ⟨rfl, rfl⟩
      simp only [ca, na]
      try refine runS ?_
      refine D.sub (H' := [WwBk b (.slice p ns.length k) vc (.slice p3 ((ml.eraseIdx K)).length k3) vg, hw, h3, nhp (ns.take l.to.toNat), LgBk m.b cb c.dc c.rg c.nd dd w true, CsBk cb (c.heard l.fr l.ep l.du l.st).2 v, hv, WBk w dd seg t, hd, nhp (ns.drop (l.to.toNat + 1)), R]) (Fsub.refl _) (Hsub.of_picks inferInstance) ?_
      refine D.perm (H' := [WwBk b (.slice p ns.length k) vc (.slice p3 ((ml.eraseIdx K)).length k3) vg, hw, h3, nhp (ns.set l.to.toNat ⟨m.b, ((LSt.up l0 c t').heard l.fr l.ep l.du l.st).2, LgBk m.b cb c.dc c.rg c.nd dd w true ++ (CsBk cb (c.heard l.fr l.ep l.du l.st).2 v ++ (hv ++ (WBk w dd seg t ++ hd)))⟩), R]) (List.Perm.of_eq (by simp [nhp_set hm])) ?_
      exact D.finE [WwBk b (.slice p ns.length k) vc (.slice p3 ((ml.eraseIdx K)).length k3) vg, hw, h3, nhp (ns.set l.to.toNat _)] _ rfl ⟨rfl, _, _, _, rfl, hs3, hN.set hm hl'⟩
   ·rw [if_neg (fun h => h.elim (fun h => by cases h) h6)]
    have hs3 := hsl
    repeat' (first | refine runS ?_ | refine al (fun _ => ?_) | refine WX.loadEW rfl hlr' hlk rfl rfl ?_ | refine sGW Lt.z.enc l.enc rfl rfl ?_ | fail)
    rename_i b5
    refine WX.as 43 (.bool (!_)) rfl (by rw [htw]) ?_
    try refine runS ?_
    refine W.quiet Tryz.mix (by kernel_rfl) ?_
    by_cases h7 : (ns.length : Int) ≤ l.to
    ·have eS : SS = ss := by rw [← hSS]; unfold comeS; rw [hK, hlk]; exact if_pos (.inr (by rw [hss]; exact h7))
     rw [eS]
     try refine runS ?_
     exact D.fin0 [WwBk b (.slice p ns.length k) vc (.slice pm (ml).length km) vg, hw, hl, nhp ns] _ rfl ⟨rfl, _, _, ns, rfl, hs3, hN⟩
    obtain ⟨m, hm⟩ : ∃ m, ns[l.to.toNat]? = some m := ⟨_, List.getElem?_eq_getElem (by omega)⟩
    have hms : ss[l.to.toNat]? = some m.s := by rw [← hN.ss, List.getElem?_map, hm]; rfl
    have eS : SS = ss.set l.to.toNat (recvL m.s l) := by rw [← hSS]; unfold comeS; rw [hK, hlk]; simp only []; rw [if_neg (show ¬ (d.k = 6 ∨ (ss.length : Int) ≤ l.to) by rw [hss]; omega), hms]
    rw [eS]
    have hlm := hN.at_ m (mem_of_getElem? hm)
    have okm := hok m.s (mem_of_getElem? hms)
    try refine runS ?_
    refine W.quiet Tryz.mix (by kernel_rfl) ?_
    try refine runS ?_
    refine W.sub (H' := [LtBk b5 l, WwBk b (.slice p ns.length k) vc (.slice pm (ml).length km) vg, hw, hl, nhp ns, R]) (Fsub.refl _) (Hsub.of_picks inferInstance) ?_
    refine W.perm (H' := [LtBk b5 l, WwBk b (.slice p ns.length k) vc (.slice pm (ml).length km) vg, hw, hl, nhp (ns.take l.to.toNat), m.h, nhp (ns.drop (l.to.toNat + 1)), R]) (List.Perm.of_eq (by simp [nhp_split hm])) ?_
    cases hfw : l.fw with
    | true =>
     have e9 : recvL m.s l = (m.s.take l.fr l.ep l.ix l.en).2 := if_pos hfw
     rw [e9]
     repeat' (first | refine runS ?_ | refine lAN (t := 43) l.enc l.en.enc rfl ?_ | fail)
     refine WX.call rfl (lgtake_ct okm hlm l.fr l.ep l.ix l.en) rfl ?_
     rintro _ _ ⟨rfl, h', rfl, hl'⟩
     simp only [ca, na]
     try refine runS ?_
     refine D.sub (H' := [WwBk b (.slice p ns.length k) vc (.slice pm (ml).length km) vg, hw, hl, nhp (ns.take l.to.toNat), h', nhp (ns.drop (l.to.toNat + 1)), R]) (Fsub.refl _) (Hsub.of_picks inferInstance) ?_
     refine D.perm (H' := [WwBk b (.slice p ns.length k) vc (.slice pm (ml).length km) vg, hw, hl, nhp (ns.set l.to.toNat ⟨m.b, (m.s.take l.fr l.ep l.ix l.en).2, h'⟩), R]) (List.Perm.of_eq (by simp [nhp_set hm])) ?_
     first | exact D.finE [WwBk b (.slice p ns.length k) vc (.slice pm (ml).length km) vg, hw, hl, nhp (ns.set l.to.toNat ⟨m.b, (m.s.take l.fr l.ep l.ix l.en).2, h'⟩)] _ rfl ⟨rfl, _, _, _, rfl, hs3, hN.set hm hl'⟩ | exact D.fin0 [WwBk b (.slice p ns.length k) vc (.slice pm (ml).length km) vg, hw, hl, nhp (ns.set l.to.toNat ⟨m.b, (m.s.take l.fr l.ep l.ix l.en).2, h'⟩)] _ rfl ⟨rfl, _, _, _, rfl, hs3, hN.set hm hl'⟩
    | false =>
     have e9 : recvL m.s l = (m.s.heard l.fr l.ep l.du l.st).2 := if_neg (by rw [hfw]; decide)
     rw [e9]
     have hup := lgup_ct hlm
     cases hs : m.s with
     | dn l0 c q =>
      rw [hs] at hup
      have hup : Ct prog 22 [.pointer (some ⟨m.b, 0, none⟩)] [m.h] (fun r H' => r = .bool false ∧ H' = [m.h]) := hup
      repeat' (first | refine runS ?_ | refine WX.callQ rfl hup rfl ?_ | fail)
      rw [hs] at hlm
      have hl' : IsLg ((LSt.dn l0 c q).heard l.fr l.ep l.du l.st).2 m.b m.h := hlm
      refine D.sub (H' := [WwBk b (.slice p ns.length k) vc (.slice pm (ml).length km) vg, hw, hl, nhp (ns.take l.to.toNat), m.h, nhp (ns.drop (l.to.toNat + 1)), R]) (Fsub.refl _) (Hsub.of_picks inferInstance) ?_
      refine D.perm (H' := [WwBk b (.slice p ns.length k) vc (.slice pm (ml).length km) vg, hw, hl, nhp (ns.set l.to.toNat ⟨m.b, ((LSt.dn l0 c q).heard l.fr l.ep l.du l.st).2, m.h⟩), R]) (List.Perm.of_eq (by simp [nhp_set hm])) ?_
      first | exact D.finE [WwBk b (.slice p ns.length k) vc (.slice pm (ml).length km) vg, hw, hl, nhp (ns.set l.to.toNat ⟨m.b, ((LSt.dn l0 c q).heard l.fr l.ep l.du l.st).2, m.h⟩)] _ rfl ⟨rfl, _, _, _, rfl, hs3, hN.set hm hl'⟩ | exact D.fin0 [WwBk b (.slice p ns.length k) vc (.slice pm (ml).length km) vg, hw, hl, nhp (ns.set l.to.toNat ⟨m.b, ((LSt.dn l0 c q).heard l.fr l.ep l.du l.st).2, m.h⟩)] _ rfl ⟨rfl, _, _, _, rfl, hs3, hN.set hm hl'⟩
     | up l0 c t' =>
      rw [hs] at hup okm hlm
      have hup : Ct prog 22 [.pointer (some ⟨m.b, 0, none⟩)] [m.h] (fun r H' => r = .bool true ∧ H' = [m.h]) := hup
      repeat' (first | refine runS ?_ | refine WX.callQ rfl hup rfl ?_ | fail)
      obtain ⟨cb, dd, w, v, hv, seg, t, hd, eh, at_⟩ := hlm
      have hl' : IsLg ((LSt.up l0 c t').heard l.fr l.ep l.du l.st).2 m.b (LgBk m.b cb c.dc c.rg c.nd dd w true ++ (CsBk cb (c.heard l.fr l.ep l.du l.st).2 v ++ (hv ++ (WBk w dd seg t ++ hd)))) := IsLg.heard at_ l.fr l.ep l.du l.st
      have okc : CsOk c := okm.ch
      refine W.perm (H' := [LtBk b5 l, WwBk b (.slice p ns.length k) vc (.slice pm (ml).length km) vg, hw, hl, nhp (ns.take l.to.toNat), LgBk m.b cb c.dc c.rg c.nd dd w true, CsBk cb c v, hv, WBk w dd seg t, hd, nhp (ns.drop (l.to.toNat + 1)), R]) (List.Perm.of_eq (by simp [eh, LSt.c0, LSt.isUp, LSt.ch])) ?_
      refine W.mixN 8 (List.replicate 12 true) [LtBk b5 l, LgBk m.b cb c.dc c.rg c.nd dd w true] Tryz.mix (by kernel_rfl) ?_
      try refine runS ?_
      refine WX.call rfl (cheard_ct okc cb v l.fr l.ep l.du l.st) rfl ?_
      rintro _ _ ⟨rfl, rfl⟩
      simp only [ca, na]
      try refine runS ?_
      refine D.sub (H' := [WwBk b (.slice p ns.length k) vc (.slice pm (ml).length km) vg, hw, hl, nhp (ns.take l.to.toNat), LgBk m.b cb c.dc c.rg c.nd dd w true, CsBk cb (c.heard l.fr l.ep l.du l.st).2 v, hv, WBk w dd seg t, hd, nhp (ns.drop (l.to.toNat + 1)), R]) (Fsub.refl _) (Hsub.of_picks inferInstance) ?_
      refine D.perm (H' := [WwBk b (.slice p ns.length k) vc (.slice pm (ml).length km) vg, hw, hl, nhp (ns.set l.to.toNat ⟨m.b, ((LSt.up l0 c t').heard l.fr l.ep l.du l.st).2, LgBk m.b cb c.dc c.rg c.nd dd w true ++ (CsBk cb (c.heard l.fr l.ep l.du l.st).2 v ++ (hv ++ (WBk w dd seg t ++ hd)))⟩), R]) (List.Perm.of_eq (by simp [nhp_set hm])) ?_
      exact D.finE [WwBk b (.slice p ns.length k) vc (.slice pm (ml).length km) vg, hw, hl, nhp (ns.set l.to.toNat _)] _ rfl ⟨rfl, _, _, _, rfl, hs3, hN.set hm hl'⟩
end
def addC (cl : List Ch) (o : Option Ch) : List Ch := match o with
 | some c => cl ++ [c]
 | none => cl
inductive StepR (d : Dd) (ss : List LSt) (cl : List Ch) (ml : List Lt) : List LSt → List Ch → List Lt → Prop
 | no : StepR d ss cl ml ss cl ml
 | put {i : Nat} {s : LSt} (h : ss[i]? = some s) (cl' op : Int) : StepR d ss cl ml (ss.set i (s.put d.key d.val false V9.z 0 cl' op).2) cl ml
 | sync {i : Nat} {s : LSt} (h : ss[i]? = some s) : StepR d ss cl ml (ss.set i s.sync) cl ml
 | send {i : Nat} {s : LSt} (h : ss[i]? = some s) (fw : Bool) : StepR d ss cl ml ss cl (sendL s i fw ml)
 | come : StepR d ss cl ml (comeS d ml ss) cl (comeM d ml)
 | drop {c : Ch} (h : cl.getLast? = some c) (k : Int) : StepR d ss cl ml ss (addC cl (dropL c k)) ml
 | add {c : Ch} (h : cl.getLast? = some c) {k : Nat} (hk : k < ss.length) : StepR d ss cl ml ss (addC cl (addL c (k : Int))) ml
 | grow {c : Ch} (h : cl.getLast? = some c) {i : Nat} {s : LSt} (hs : ss[i]? = some s) (h1 : s.isUp = true) (h2 : s.ch.ep = c.ep) (h3 : s.ch.cgt = true) : StepR d ss cl ml ss (addC cl (growL c)) ml
 | enter {i : Nat} {s : LSt} (h : ss[i]? = some s) {c : Ch} (hc : c ∈ cl) : StepR d ss cl ml (ss.set i (s.enter c.cfg).2) cl ml
 | crash {i : Nat} {s : LSt} (h : ss[i]? = some s) (k : Int) : StepR d ss cl ml (ss.set i (s.crash k)) cl ml
 | start {i : Nat} {s s' : LSt} (h : ss[i]? = some s) (hs : StartOf s s') : StepR d ss cl ml (ss.set i s') cl ml
theorem addC_cfg (cl : List Ch) (o : Option Ch) : (if o.isSome = true then cl.map (·.cfg) ++ [match o with | some c => c.cfg | none => Cfg.z] else cl.map (·.cfg)) = (addC cl o).map (·.cfg) := by
 cases o with
 | none => rfl
 | some c => simp [addC]
section
variable (b : Nat) (vn vc vm vg : Value)
def StepPost (hw : Hp) (d : Dd) (ss : List LSt) (cl : List Ch) (ml : List Lt) (H' : HH) : Prop :=
 ∃ vc' hc' vm' hl' ns' ss' cl' ml', H' = [WwBk b vn vc' vm' vg, hw, hc', hl', nhp ns'] ∧ IsSl 34 (cl'.map (·.cfg)) vc' hc' ∧ IsSl 129 ml' vm' hl' ∧ Nds ss' ns' vn hw ∧ StepR d ss cl ml ss' cl' ml'
set_option maxRecDepth 10000 in
set_option maxHeartbeats 8000000 in
theorem step_ct {ss : List LSt} {ns : List Nl} {hw : Hp} (hN : Nds ss ns vn hw) {N : Int} (hok : ∀ s ∈ ss, s.ok N) (hN1 : N + 2 < 1099511627776) {cl : List Ch} {hc : Hp} (hcs : IsSl 34 (cl.map (·.cfg)) vc hc) (hcl : cl.length ≤ 1000) {top : Ch} (htop : cl.getLast? = some top)
  (okc : ∀ c ∈ cl, ChOk c) {ml : List Lt} {hl : Hp} (hsl : IsSl 129 ml vm hl) (hll : ml.length ≤ 1000) (hto : ∀ l ∈ ml, 0 ≤ l.to) (hns : ns.length ≤ 1000) (hnp : 0 < ns.length) (hak : ∀ s ∈ ss, s.isUp = true → 0 ≤ s.ch.ak) (d : Dd)
  (hd1 : -9223372036854775808 ≤ d.n ∧ d.n ≤ 9223372036854775807) (hd2 : -9223372036854775808 ≤ d.a ∧ d.a ≤ 9223372036854775807) :
  Ct prog 34 [.pointer (some ⟨b, 0, none⟩), .agg (List.toArray d.enc)] [WwBk b vn vc vm vg, hw, hc, hl, nhp ns]
   (fun r H' => r = .tuple #[] ∧ StepPost b vn vg hw d ss cl ml H') := by
 have hlr := hsl.rs
 have hcr := hcs.rs
 have hsn := hN.rs
 obtain ⟨p, k, rfl⟩ := hsn.len
 obtain ⟨pm, km, rfl⟩ := hlr.len
 obtain ⟨pc, kc, rfl⟩ := hcr.len
 have hsn' : Rs ns (.slice p ns.length k) hw := hsn
 have hcr' : Rs (cl.map (·.cfg)) (.slice pc (cl.map (·.cfg)).length kc) hc := hcr
 have hcm : (cl.map (·.cfg)).length = cl.length := length_map _
 have hss : ss.length = ns.length := by rw [← hN.ss, length_map]
 obtain ⟨a1, a2, a3, a4⟩ := among_ok d.a (n := ns.length) hnp
 generalize hA : among d.a ns.length = A at *
 obtain ⟨m, hm⟩ : ∃ m, ns[A]? = some m := ⟨_, List.getElem?_eq_getElem a4⟩
 have hms : ss[A]? = some m.s := by rw [← hN.ss, List.getElem?_map, hm]; rfl
 have hlm := hN.at_ m (mem_of_getElem? hm)
 have okm := hok m.s (mem_of_getElem? hms)
 have okt := okc top (mem_of_getLast? htop)
 have hakm : 0 ≤ m.s.ch.ak := by
  cases hu : m.s.isUp with
  | true => exact hak m.s (mem_of_getElem? hms) hu
  | false =>
   cases hs : m.s with
   | up l c t => rw [hs] at hu; cases hu
   | dn l c q => exact Int.le_refl 0
 have hnw := newest_ct b (.slice p ns.length k) (.slice pc (cl.map (·.cfg)).length kc) (.slice pm ml.length km) vg htop hcr' (by omega)
 refine Ct.mk' func34 rfl rfl rfl (fun g R => ?_)
 try simp only [ca]
 simp only [na]
 repeat' (first | refine runS ?_ | refine bx rfl (fun _ => ?_) | fail)
 rename_i b3
 repeat' (first | refine runS ?_ | refine re ?_ | fail)
 refine WX.as 5 (.int .i64 (A : Int)) rfl (by rw [a3]) ?_
 refine WX.as 25 (.int .i64 (A : Int)) rfl (by rw [a3]) ?_
 try refine runS ?_
 by_cases k1 : d.k = 1
 ·refine W.perm (H' := [DdBk b3 d, WwBk b (.slice p ns.length k) (.slice pc (cl.map (·.cfg)).length kc) (.slice pm ml.length km) vg, hw, hc, hl, nhp (ns.take A), m.h, nhp (ns.drop (A + 1)), R]) (List.Perm.of_eq (by simp [nhp_split hm])) ?_
  repeat' (first | refine runS ?_ | refine bdZ V9.z.enc ?_ | refine WX.mask 2 4 rfl rfl (by decide) (by decide) rfl rfl ?_ | refine WX.mask 10 1024 rfl rfl (by decide) (by decide) rfl rfl ?_ | fail)
  refine WX.call rfl (lgput_ct okm hlm d.key d.val false V9.z 0 (d.b % 4) (1 + d.n % 1024)) rfl ?_
  rintro _ _ ⟨rfl, h', rfl, hl'⟩
  simp only [ca, na]
  try refine runS ?_
  refine D.sub (H' := [DdBk b3 d, WwBk b (.slice p ns.length k) (.slice pc (cl.map (·.cfg)).length kc) (.slice pm ml.length km) vg, hw, hc, hl, nhp (ns.take A), h', nhp (ns.drop (A + 1)), R]) (Fsub.refl _) (Hsub.of_picks inferInstance) ?_
  refine D.perm (H' := [DdBk b3 d, WwBk b (.slice p ns.length k) (.slice pc (cl.map (·.cfg)).length kc) (.slice pm ml.length km) vg, hw, hc, hl, nhp (ns.set A ⟨m.b, (m.s.put d.key d.val false V9.z 0 (d.b % 4) (1 + d.n % 1024)).2, h'⟩), R]) (List.Perm.of_eq (by simp [nhp_set hm])) ?_
  exact D.finE [WwBk b (.slice p ns.length k) (.slice pc (cl.map (·.cfg)).length kc) (.slice pm ml.length km) vg, hw, hc, hl, nhp (ns.set A ⟨m.b, (m.s.put d.key d.val false V9.z 0 (d.b % 4) (1 + d.n % 1024)).2, h'⟩)] _ rfl ⟨rfl, _, _, _, _, _, _, _, _, rfl, hcs, hsl, hN.set hm hl', StepR.put hms _ _⟩
 try refine runS ?_
 by_cases k2 : d.k = 2
 ·refine W.perm (H' := [DdBk b3 d, WwBk b (.slice p ns.length k) (.slice pc (cl.map (·.cfg)).length kc) (.slice pm ml.length km) vg, hw, hc, hl, nhp (ns.take A), m.h, nhp (ns.drop (A + 1)), R]) (List.Perm.of_eq (by simp [nhp_split hm])) ?_
  try refine runS ?_
  refine WX.call rfl (lgsync_ct okm hlm) rfl ?_
  rintro _ _ ⟨rfl, h', rfl, hl'⟩
  simp only [ca, na]
  try refine runS ?_
  refine D.sub (H' := [DdBk b3 d, WwBk b (.slice p ns.length k) (.slice pc (cl.map (·.cfg)).length kc) (.slice pm ml.length km) vg, hw, hc, hl, nhp (ns.take A), h', nhp (ns.drop (A + 1)), R]) (Fsub.refl _) (Hsub.of_picks inferInstance) ?_
  refine D.perm (H' := [DdBk b3 d, WwBk b (.slice p ns.length k) (.slice pc (cl.map (·.cfg)).length kc) (.slice pm ml.length km) vg, hw, hc, hl, nhp (ns.set A ⟨m.b, m.s.sync, h'⟩), R]) (List.Perm.of_eq (by simp [nhp_set hm])) ?_
  exact D.finE [WwBk b (.slice p ns.length k) (.slice pc (cl.map (·.cfg)).length kc) (.slice pm ml.length km) vg, hw, hc, hl, nhp (ns.set A ⟨m.b, m.s.sync, h'⟩)] _ rfl ⟨rfl, _, _, _, _, _, _, _, _, rfl, hcs, hsl, hN.set hm hl', StepR.sync hms⟩
 try refine runS ?_
 by_cases k3 : d.k = 3
 ·try refine runS ?_
  refine WX.call rfl (send_ct b (.slice p ns.length k) (.slice pc (cl.map (·.cfg)).length kc) (.slice pm ml.length km) vg hsn' hm hlm okm.ch hakm hsl hll true) rfl ?_
  rintro _ _ ⟨rfl, vm', hl', rfl, hs'⟩
  simp only [ca, na]
  try refine runS ?_
  exact D.finE [WwBk b (.slice p ns.length k) (.slice pc (cl.map (·.cfg)).length kc) vm' vg, hw, hc, hl', nhp ns] _ rfl ⟨rfl, _, _, _, _, _, _, _, _, rfl, hcs, hs', hN, StepR.send hms true⟩
 try refine runS ?_
 by_cases k4 : d.k = 4
 ·try refine runS ?_
  refine WX.call rfl (send_ct b (.slice p ns.length k) (.slice pc (cl.map (·.cfg)).length kc) (.slice pm ml.length km) vg hsn' hm hlm okm.ch hakm hsl hll false) rfl ?_
  rintro _ _ ⟨rfl, vm', hl', rfl, hs'⟩
  simp only [ca, na]
  try refine runS ?_
  exact D.finE [WwBk b (.slice p ns.length k) (.slice pc (cl.map (·.cfg)).length kc) vm' vg, hw, hc, hl', nhp ns] _ rfl ⟨rfl, _, _, _, _, _, _, _, _, rfl, hcs, hs', hN, StepR.send hms false⟩
 try refine runS ?_
 by_cases k5 : d.k = 5
 ·repeat' (first | refine runS ?_ | refine lAN (t := 68) d.enc d.enc rfl ?_ | fail)
  refine WX.call rfl (come_ct b (.slice p ns.length k) (.slice pc (cl.map (·.cfg)).length kc) (.slice pm ml.length km) vg hN hok (by omega) hsl hll hto d hns hd1) rfl ?_
  rintro _ _ ⟨rfl, vm', hl', ns', rfl, hs', hN'⟩
  simp only [ca, na]
  try refine runS ?_
  exact D.finE [WwBk b (.slice p ns.length k) (.slice pc (cl.map (·.cfg)).length kc) vm' vg, hw, hc, hl', nhp ns'] _ rfl ⟨rfl, _, _, _, _, _, _, _, _, rfl, hcs, hs', hN', StepR.come⟩
 try refine runS ?_
 by_cases k6 : d.k = 6
 ·repeat' (first | refine runS ?_ | refine lAN (t := 68) d.enc d.enc rfl ?_ | fail)
  refine WX.call rfl (come_ct b (.slice p ns.length k) (.slice pc (cl.map (·.cfg)).length kc) (.slice pm ml.length km) vg hN hok (by omega) hsl hll hto d hns hd1) rfl ?_
  rintro _ _ ⟨rfl, vm', hl', ns', rfl, hs', hN'⟩
  simp only [ca, na]
  try refine runS ?_
  exact D.finE [WwBk b (.slice p ns.length k) (.slice pc (cl.map (·.cfg)).length kc) vm' vg, hw, hc, hl', nhp ns'] _ rfl ⟨rfl, _, _, _, _, _, _, _, _, rfl, hcs, hs', hN', StepR.come⟩
 try refine runS ?_
 by_cases k7 : d.k = 7
 ·repeat' (first | refine runS ?_ | refine WX.callQ rfl hnw rfl ?_ | fail)
  refine WX.call rfl (drop_ct okt (A : Int)) rfl ?_
  rintro _ _ ⟨rfl, rfl⟩
  simp only [ca, na]
  try refine runS ?_
  refine WX.call rfl (turn_ct b (.slice p ns.length k) (.slice pc (cl.map (·.cfg)).length kc) (.slice pm ml.length km) vg hcs (by omega) _ _) rfl ?_
  rintro _ _ ⟨rfl, vc', hc', rfl, hs'⟩
  have hs' : IsSl 34 ((addC cl (dropL top (A : Int))).map (·.cfg)) vc' hc' := by rw [← addC_cfg]; exact hs'
  simp only [ca, na]
  try refine runS ?_
  exact D.finE [WwBk b (.slice p ns.length k) vc' (.slice pm ml.length km) vg, hw, hc', hl, nhp ns] _ rfl ⟨rfl, _, _, _, _, _, _, _, _, rfl, hs', hsl, hN, StepR.drop htop _⟩
 try refine runS ?_
 by_cases k8 : d.k = 8
 ·repeat' (first | refine runS ?_ | refine WX.callQ rfl hnw rfl ?_ | fail)
  refine WX.call rfl (with_ct okt (A : Int)) rfl ?_
  rintro _ _ ⟨rfl, rfl⟩
  simp only [ca, na]
  try refine runS ?_
  refine WX.call rfl (turn_ct b (.slice p ns.length k) (.slice pc (cl.map (·.cfg)).length kc) (.slice pm ml.length km) vg hcs (by omega) _ _) rfl ?_
  rintro _ _ ⟨rfl, vc', hc', rfl, hs'⟩
  have hs' : IsSl 34 ((addC cl (addL top (A : Int))).map (·.cfg)) vc' hc' := by rw [← addC_cfg]; exact hs'
  simp only [ca, na]
  try refine runS ?_
  exact D.finE [WwBk b (.slice p ns.length k) vc' (.slice pm ml.length km) vg, hw, hc', hl, nhp ns] _ rfl ⟨rfl, _, _, _, _, _, _, _, _, rfl, hs', hsl, hN, StepR.add htop (by omega)⟩
 try refine runS ?_
 by_cases k9 : d.k = 9
 ·try refine runS ?_
  refine WX.call rfl (grownW_ct b (.slice p ns.length k) (.slice pc (cl.map (·.cfg)).length kc) (.slice pm ml.length km) vg htop hcr' (by omega) hsn' (by omega) fun n hn => ⟨hN.at_ n hn, (hok n.s (by rw [← hN.ss]; exact mem_map.2 ⟨n, hn, rfl⟩)).ch⟩) rfl ?_
  rintro _ _ ⟨bo, rfl, rfl, hgr⟩
  simp only [ca, na]
  cases bo with
  | false =>
   try refine runS ?_
   exact D.finE [WwBk b (.slice p ns.length k) (.slice pc (cl.map (·.cfg)).length kc) (.slice pm ml.length km) vg, hw, hc, hl, nhp ns] _ rfl ⟨rfl, _, _, _, _, _, _, _, _, rfl, hcs, hsl, hN, StepR.no⟩
  | true =>
   obtain ⟨i, n, hn1, hn2, hn3, hn4⟩ := hgr rfl
   repeat' (first | refine runS ?_ | refine WX.callQ rfl hnw rfl ?_ | fail)
   refine WX.call rfl (grow_ct okt) rfl ?_
   rintro _ _ ⟨rfl, rfl⟩
   simp only [ca, na]
   try refine runS ?_
   refine WX.call rfl (turn_ct b (.slice p ns.length k) (.slice pc (cl.map (·.cfg)).length kc) (.slice pm ml.length km) vg hcs (by omega) _ _) rfl ?_
   rintro _ _ ⟨rfl, vc', hc', rfl, hs'⟩
   have hs' : IsSl 34 ((addC cl (growL top)).map (·.cfg)) vc' hc' := by rw [← addC_cfg]; exact hs'
   simp only [ca, na]
   try refine runS ?_
   exact D.finE [WwBk b (.slice p ns.length k) vc' (.slice pm ml.length km) vg, hw, hc', hl, nhp ns] _ rfl ⟨rfl, _, _, _, _, _, _, _, _, rfl, hs', hsl, hN, StepR.grow htop (i := i) (s := n.s) (by rw [← hN.ss, List.getElem?_map, hn1]; rfl) hn2 hn3 hn4⟩
 try refine runS ?_
 by_cases k10 : d.k = 10
 ·have hcp : 0 < cl.length := by
   cases cl with
   | nil => cases htop
   | cons a t => simp
  obtain ⟨b1, b2, b3', b4⟩ := among_ok d.n (n := (cl.map (·.cfg)).length) (by rw [hcm]; exact hcp)
  generalize among d.n (cl.map (·.cfg)).length = K at *
  obtain ⟨x, hx⟩ : ∃ x, cl[K]? = some x := ⟨_, List.getElem?_eq_getElem (by omega)⟩
  have hxc : (cl.map (·.cfg))[K]? = some x.cfg := by rw [List.getElem?_map, hx]; rfl
  refine W.perm (H' := [DdBk b3 d, WwBk b (.slice p ns.length k) (.slice pc (cl.map (·.cfg)).length kc) (.slice pm ml.length km) vg, hw, hc, hl, nhp (ns.take A), m.h, nhp (ns.drop (A + 1)), R]) (List.Perm.of_eq (by simp [nhp_split hm])) ?_
  try refine runS ?_
  refine W.mixT (List.replicate 15 true) [DdBk b3 d, WwBk b (.slice p ns.length k) (.slice pc (cl.map (·.cfg)).length kc) (.slice pm ml.length km) vg, hc] Tryz.mix (by kernel_rfl) ?_
  repeat' (first | refine runS ?_ | refine re ?_ | fail)
  refine WX.as 116 (.int .i64 (K : Int)) rfl (by rw [b3']) ?_
  repeat' (first | refine runS ?_ | refine WX.loadEW rfl hcr' hxc rfl rfl ?_ | fail)
  refine WX.call rfl (lgenter_ct okm hlm x.cfg) rfl ?_
  rintro _ _ ⟨rfl, h', rfl, hl'⟩
  simp only [ca, na]
  try refine runS ?_
  refine D.sub (H' := [DdBk b3 d, WwBk b (.slice p ns.length k) (.slice pc (cl.map (·.cfg)).length kc) (.slice pm ml.length km) vg, hw, hc, hl, nhp (ns.take A), h', nhp (ns.drop (A + 1)), R]) (Fsub.refl _) (Hsub.of_picks inferInstance) ?_
  refine D.perm (H' := [DdBk b3 d, WwBk b (.slice p ns.length k) (.slice pc (cl.map (·.cfg)).length kc) (.slice pm ml.length km) vg, hw, hc, hl, nhp (ns.set A ⟨m.b, (m.s.enter x.cfg).2, h'⟩), R]) (List.Perm.of_eq (by simp [nhp_set hm])) ?_
  exact D.finE [WwBk b (.slice p ns.length k) (.slice pc (cl.map (·.cfg)).length kc) (.slice pm ml.length km) vg, hw, hc, hl, nhp (ns.set A ⟨m.b, (m.s.enter x.cfg).2, h'⟩)] _ rfl ⟨rfl, _, _, _, _, _, _, _, _, rfl, hcs, hsl, hN.set hm hl', StepR.enter hms (mem_of_getElem? hx)⟩
 try refine runS ?_
 by_cases k11 : d.k = 11
 ·refine W.perm (H' := [DdBk b3 d, WwBk b (.slice p ns.length k) (.slice pc (cl.map (·.cfg)).length kc) (.slice pm ml.length km) vg, hw, hc, hl, nhp (ns.take A), m.h, nhp (ns.drop (A + 1)), R]) (List.Perm.of_eq (by simp [nhp_split hm])) ?_
  try refine runS ?_
  refine WX.call rfl (lgcrash_ct okm hlm hd1.1 hd1.2) rfl ?_
  rintro _ _ ⟨rfl, h', rfl, hl'⟩
  simp only [ca, na]
  try refine runS ?_
  refine D.sub (H' := [DdBk b3 d, WwBk b (.slice p ns.length k) (.slice pc (cl.map (·.cfg)).length kc) (.slice pm ml.length km) vg, hw, hc, hl, nhp (ns.take A), h', nhp (ns.drop (A + 1)), R]) (Fsub.refl _) (Hsub.of_picks inferInstance) ?_
  refine D.perm (H' := [DdBk b3 d, WwBk b (.slice p ns.length k) (.slice pc (cl.map (·.cfg)).length kc) (.slice pm ml.length km) vg, hw, hc, hl, nhp (ns.set A ⟨m.b, m.s.crash d.n, h'⟩), R]) (List.Perm.of_eq (by simp [nhp_set hm])) ?_
  exact D.finE [WwBk b (.slice p ns.length k) (.slice pc (cl.map (·.cfg)).length kc) (.slice pm ml.length km) vg, hw, hc, hl, nhp (ns.set A ⟨m.b, m.s.crash d.n, h'⟩)] _ rfl ⟨rfl, _, _, _, _, _, _, _, _, rfl, hcs, hsl, hN.set hm hl', StepR.crash hms d.n⟩
 try refine runS ?_
 by_cases k12 : d.k = 12
 ·refine W.perm (H' := [DdBk b3 d, WwBk b (.slice p ns.length k) (.slice pc (cl.map (·.cfg)).length kc) (.slice pm ml.length km) vg, hw, hc, hl, nhp (ns.take A), m.h, nhp (ns.drop (A + 1)), R]) (List.Perm.of_eq (by simp [nhp_split hm])) ?_
  obtain ⟨s', ok', st, hct⟩ := lgstart okm
  try refine runS ?_
  refine WX.call rfl (hct hlm) rfl ?_
  rintro _ _ ⟨rfl, h', rfl, hl'⟩
  simp only [ca, na]
  try refine runS ?_
  refine D.sub (H' := [DdBk b3 d, WwBk b (.slice p ns.length k) (.slice pc (cl.map (·.cfg)).length kc) (.slice pm ml.length km) vg, hw, hc, hl, nhp (ns.take A), h', nhp (ns.drop (A + 1)), R]) (Fsub.refl _) (Hsub.of_picks inferInstance) ?_
  refine D.perm (H' := [DdBk b3 d, WwBk b (.slice p ns.length k) (.slice pc (cl.map (·.cfg)).length kc) (.slice pm ml.length km) vg, hw, hc, hl, nhp (ns.set A ⟨m.b, s', h'⟩), R]) (List.Perm.of_eq (by simp [nhp_set hm])) ?_
  exact D.finE [WwBk b (.slice p ns.length k) (.slice pc (cl.map (·.cfg)).length kc) (.slice pm ml.length km) vg, hw, hc, hl, nhp (ns.set A ⟨m.b, s', h'⟩)] _ rfl ⟨rfl, _, _, _, _, _, _, _, _, rfl, hcs, hsl, hN.set hm hl', StepR.start hms st⟩
 try refine runS ?_
 exact D.finE [WwBk b (.slice p ns.length k) (.slice pc (cl.map (·.cfg)).length kc) (.slice pm ml.length km) vg, hw, hc, hl, nhp ns] _ rfl ⟨rfl, _, _, _, _, _, _, _, _, rfl, hcs, hsl, hN, StepR.no⟩
end
end Go.Proofs.YtejfahjgfedliaaGreat

namespace Go.Proofs.YtejfahjgfedliaaGreat
open Go Go.Sl List
def vcOf (s : LSt) : CS := match s with
 | .up _ c _ => c
 | .dn l c q => c.again ((recs l).take (keptN l q))
structure WOk (ss : List LSt) (cl : List Ch) (ml : List Lt) (gd : List Ent) (N : Int) : Prop where
 ok : ∀ s ∈ ss, s.ok N
 id : ∀ (i : Nat) s, ss[i]? = some s → s.c0.nd = (i : Int)
 ncl : (cl.length : Int) ≤ N
 nml : ml.length ≤ 201
 wi : ∃ tn top, cl.getLast? = some top ∧ WI cl.reverse tn (ss.map vcOf) ml gd top
theorem WOk.mono {ss : List LSt} {cl : List Ch} {ml : List Lt} {gd : List Ent} {N M : Int} (h : WOk ss cl ml gd N) (hm : N ≤ M) : WOk ss cl ml gd M :=
 ⟨fun s hs => (h.ok s hs).mono hm, h.id, by have := h.ncl; omega, h.nml, h.wi⟩
section
variable {ss : List LSt} {cl : List Ch} {ml : List Lt} {gd : List Ent} {N : Int} (h : WOk ss cl ml gd N)
include h
theorem WOk.node {M : Int} (hM : N ≤ M) {i : Nat} {s s' : LSt} (hi : ss[i]? = some s) (ok' : s'.ok M) (hnd : s'.c0.nd = s.c0.nd)
  (hw : ∀ {tn top}, WI cl.reverse tn (ss.map vcOf) ml gd top → (ss.map vcOf)[i]? = some (vcOf s) → ∃ tn', WI cl.reverse tn' ((ss.map vcOf).set i (vcOf s')) ml gd top) : WOk (ss.set i s') cl ml gd M := by
 obtain ⟨tn, top, h1, h2⟩ := h.wi
 obtain ⟨tn', h3⟩ := hw h2 (by rw [List.getElem?_map, hi]; rfl)
 rw [← List.map_set] at h3
 refine ⟨fun x hx => ?_, fun j x hx => ?_, by have := h.ncl; omega, h.nml, tn', top, h1, h3⟩
 ·obtain ⟨j, hj⟩ := mem_iff_getElem?.1 hx
  rw [List.getElem?_set] at hj
  split at hj
  ·split at hj
   ·cases hj; exact ok'
   ·cases hj
  ·exact (h.ok x (mem_of_getElem? hj)).mono hM
 ·rw [List.getElem?_set] at hx
  split at hx
  ·split at hx
   ·rename_i e _; subst e; cases hx; rw [hnd]; exact h.id i s hi
   ·cases hx
  ·exact h.id j x hx
theorem WOk.same {M : Int} (hM : N ≤ M) {i : Nat} {s s' : LSt} (hi : ss[i]? = some s) (ok' : s'.ok M) (hnd : s'.c0.nd = s.c0.nd) (he : vcOf s' = vcOf s) : WOk (ss.set i s') cl ml gd M :=
 h.node hM hi ok' hnd fun w hv => by rw [he]; exact w.noop hv
theorem WOk.put (hN : N < 1099511627776) {i : Nat} {s : LSt} (hi : ss[i]? = some s) (key val : ByteArray) (dead : Bool) (deps : V9) (clock cl' op : Int) : WOk (ss.set i (s.put key val dead deps clock cl' op).2) cl ml gd (N + 1) := by
 have ok' := (h.ok s (mem_of_getElem? hi)).put hN key val dead deps clock cl' op
 cases s with
 | dn l c q => exact h.same (by omega) hi ok' rfl rfl
 | up l c t =>
  refine h.node (by omega) hi ok' (id_put l c key val dead deps clock cl' op).2.2 fun w hv => ?_
  show ∃ tn', WI cl.reverse tn' ((ss.map vcOf).set i (putLS l c key val dead deps clock cl' op).2.1) ml gd _
  unfold putLS
  split
  ·exact w.putS hv key val dead deps clock cl' op
  ·exact w.noop hv
theorem WOk.sync {i : Nat} {s : LSt} (hi : ss[i]? = some s) : WOk (ss.set i s.sync) cl ml gd N := by
 have ok' := (h.ok s (mem_of_getElem? hi)).sync
 cases s with
 | dn l c q => exact h.same (Int.le_refl _) hi ok' rfl rfl
 | up l c t => exact h.node (Int.le_refl _) hi ok' (id_sync c).2.2 fun w hv => w.sync hv
theorem WOk.enter (hN : N + 2 < 1099511627776) {i : Nat} {s : LSt} (hi : ss[i]? = some s) {c' : Ch} (hc : c' ∈ cl) : WOk (ss.set i (s.enter c'.cfg).2) cl ml gd (N + 2) := by
 have ok' := (h.ok s (mem_of_getElem? hi)).enter hN c'.cfg
 cases s with
 | dn l c q => exact h.same (by omega) hi ok' rfl rfl
 | up l c t =>
  refine h.node (by omega) hi ok' (id_ent l c c'.cfg).2.2 fun w hv => ?_
  show ∃ tn', WI cl.reverse tn' ((ss.map vcOf).set i (entLS l c c'.cfg).2.1) ml gd _
  unfold entLS
  repeat' split
  all_goals first | exact w.enter hv (mem_reverse.2 hc) | exact w.noop hv
theorem WOk.start {i : Nat} {s s' : LSt} (hi : ss[i]? = some s) (hs : StartOf s s') : WOk (ss.set i s') cl ml gd N := by
 have ok' := hs.ok (h.ok s (mem_of_getElem? hi))
 cases s with
 | up l c t => cases hs; exact h.same (Int.le_refl _) hi ok' rfl rfl
 | dn l c q =>
  obtain ⟨l', t', rfl, h1, h2, h3, h4, h5, h6⟩ := hs
  refine h.same (Int.le_refl _) hi ok' (id_again c _).2.2 ?_
  show c.again (recs l') = c.again _
  rw [h5]
theorem WOk.crash {i : Nat} {s : LSt} (hi : ss[i]? = some s) (k : Int) : WOk (ss.set i (s.crash k)) cl ml gd N := by
 have ok0 := h.ok s (mem_of_getElem? hi)
 have ok' := ok0.crash k
 cases s with
 | dn l c q => exact h.same (Int.le_refl _) hi ok' rfl rfl
 | up l c t =>
  refine h.node (Int.le_refl _) hi ok' rfl fun w hv => ?_
  obtain ⟨s', -, hs, -⟩ := lgstart ok'
  obtain ⟨l', t', rfl, h1, h2, h3, h4, h5, -, h6⟩ := hs
  obtain ⟨-, e, -, -, -, -, -, hdu⟩ := LI.restart ok0 h1 h2 h3 h4 h5 h6
  have e : c.again (recs l') = CS.restore c.dc c.rg c.nd (cfO c.co) c.sn c.bs (c.lg.take (c.lg.length - ((recs l).length - keptN l k.toNat))) := e
  have ev : vcOf ((LSt.up l c t).crash k) = c.again (recs l') := by
   show c.again ((recs l).take (keptN l k.toNat)) = _
   rw [h5]
  rw [ev, e]
  exact w.again hv hdu (Nat.sub_le _ _)
theorem WOk.recv (hN : N < 1099511627776) {l : Lt} (hl : l ∈ ml) {i : Nat} {s : LSt} (hi : ss[i]? = some s) (hto : l.to = (i : Int)) : WOk (ss.set i (recvL s l)) cl ml gd (N + 1) := by
 have ok0 := h.ok s (mem_of_getElem? hi)
 have hid := h.id i s hi
 unfold recvL
 split
 ·rename_i hf
  have ok' := ok0.take hN l.fr l.ep l.ix l.en
  cases s with
  | dn l0 c q => exact h.same (by omega) hi ok' rfl rfl
  | up l0 c t =>
   refine h.node (by omega) hi ok' (id_take l0 c l.fr l.ep l.ix l.en).2.2 fun w hv => ?_
   show ∃ tn', WI cl.reverse tn' ((ss.map vcOf).set i (takeLS l0 c l.fr l.ep l.ix l.en).2.1) ml gd _
   unfold takeLS
   split
   ·exact w.takeL hv hl hf (by rw [hto]; exact hid.symm)
   ·exact w.noop hv
 ·rename_i hf
  have ok' := (ok0.heard l.fr l.ep l.du l.st).mono (M := N + 1) (by omega)
  cases s with
  | dn l0 c q => exact h.same (by omega) hi ok' rfl rfl
  | up l0 c t => exact h.node (by omega) hi ok' (id_heard c l.fr l.ep l.du l.st).2.2 fun w hv => w.heardL hv hl (by simpa using hf) (by rw [hto]; exact hid.symm)
theorem WOk.mail {ml' : List Lt} (hl : ml'.length ≤ 201) (hm : ∀ l ∈ ml', l ∈ ml ∨ ∀ {tn top}, WI cl.reverse tn (ss.map vcOf) ml gd top → LtI cl.reverse tn l) : WOk ss cl ml' gd N := by
 obtain ⟨tn, top, h1, h2⟩ := h.wi
 exact ⟨h.ok, h.id, h.ncl, hl, tn, top, h1, h2.mail fun l hl => (hm l hl).imp (fun x => x) fun f => f h2⟩
theorem WOk.come (hN : N < 1099511627776) (d : Dd) : WOk (comeS d ml ss) cl (comeM d ml) gd (N + 1) := by
 have h1 : WOk (comeS d ml ss) cl ml gd (N + 1) := by
  unfold comeS
  split
  ·exact h.mono (by omega)
  ·rename_i l hl
   split
   ·exact h.mono (by omega)
   ·rename_i hn
    split
    ·exact h.mono (by omega)
    ·rename_i s hs
     have hlm := mem_of_getElem? hl
     refine h.recv hN hlm hs ?_
     obtain ⟨tn, top, -, w⟩ := h.wi
     have := w.to_pos hlm
     omega
 refine h1.mail ?_ fun l hl => .inl ?_
 ·unfold comeM; have := h.nml; split
  ·have := length_eraseIdx_le ml (among d.n ml.length); omega
  ·exact this
 ·unfold comeM at hl; split at hl
  ·exact mem_of_mem_eraseIdx hl
  ·exact hl
theorem WOk.send {i : Nat} {s : LSt} (hi : ss[i]? = some s) (fw : Bool) : WOk ss cl (sendL s i fw ml) gd N := by
 have hnm := h.nml
 have hid := h.id i s hi
 cases s with
 | dn l c q => exact h
 | up l c t =>
  have hid : c.nd = (i : Int) := hid
  have hv : (ss.map vcOf)[i]? = some c := by rw [List.getElem?_map, hi]; rfl
  show WOk ss cl (sendC c i fw ml) gd N
  unfold sendC
  rw [← hid]
  split
  ·exact h
  ·rename_i hc
   have hlen : ml.length ≤ 200 := by omega
   split
   ·split
    ·rename_i hx
     refine h.mail (by simp; omega) fun l hl => ?_
     rcases mem_append.1 hl with hl | hl
     ·exact .inl hl
     ·right
      intro tn top w
      rw [mem_singleton.1 hl]
      obtain ⟨n, t⟩ := w.at hv
      obtain ⟨hb, h1, h2⟩ := nxt_at t.ok n.ak1.1 hx
      have hd := t.ok.du
      have hlen : c.len = (c.lg.length : Int) := rfl
      obtain ⟨e, he⟩ : ∃ e, c.lg[c.nxt.1.toNat - 1]? = some e := ⟨_, List.getElem?_eq_getElem (by omega)⟩
      rw [getD_eq_getElem?_getD, he, Option.getD_some]
      have := w.sendL hv (x := c.nxt.1.toNat - 1) (e := e) hb (by omega) he 0 0
      rw [show ((c.nxt.1.toNat - 1 : Nat) : Int) + 1 = c.nxt.1 by omega] at this
      exact this
    ·exact h
   ·split
    ·rename_i ha
     refine h.mail (by simp; omega) fun l hl => ?_
     rcases mem_append.1 hl with hl | hl
     ·exact .inl hl
     ·right
      intro tn top w
      rw [mem_singleton.1 hl]
      exact w.tellL hv ha
    ·exact h
theorem WOk.turn {top c' : Ch} (ht : cl.getLast? = some top) (hn : ∀ {tn}, WI cl.reverse tn (ss.map vcOf) ml gd top → WI (c' :: cl.reverse) tn (ss.map vcOf) ml gd c') : WOk ss (cl ++ [c']) ml gd (N + 1) := by
 obtain ⟨tn, top', h1, h2⟩ := h.wi
 rw [ht] at h1; cases h1
 exact ⟨fun s hs => (h.ok s hs).mono (by omega), h.id, by have := h.ncl; simp; omega, h.nml, tn, c', by simp, by rw [reverse_append]; exact hn h2⟩
end
end Go.Proofs.YtejfahjgfedliaaGreat

namespace Go.Proofs.YtejfahjgfedliaaGreat
open Go Go.Sl Go.Proofs.Tryz List
theorem drop_short {c c' : Ch} {n : Int} (h : dropL c n = some c') : c'.ms.length ≤ c.ms.length := by
 unfold dropL at h
 split at h
 ·cases h
 split at h
 ·cases h; exact Nat.le_refl _
 split at h
 ·cases h
 ·cases h; exact length_filter_le _ _
theorem add_short {c c' : Ch} {n : Int} (h : addL c n = some c') : c'.ms.length ≤ c.ms.length := by
 unfold addL at h
 split at h
 ·cases h
 ·cases h; exact Nat.le_refl _
theorem not_grown {c c' : Ch} (h : c'.ms.length ≤ c.ms.length) {q : Mem} (e : c'.ms = c.ms ++ [q]) : False := by
 rw [e] at h; simp at h; omega
section
variable {ss : List LSt} {cl : List Ch} {ml : List Lt} {gd : List Ent} {N : Int}
theorem WOk.step (h : WOk ss cl ml gd N) (hN : N + 2 < 1099511627776) {d : Dd} {ss' : List LSt} {cl' : List Ch} {ml' : List Lt} (st : StepR d ss cl ml ss' cl' ml') : WOk ss' cl' ml' gd (N + 2) ∧ ss'.length = ss.length := by
 cases st with
 | no => exact ⟨h.mono (by omega), rfl⟩
 | put hi cl' op => exact ⟨(h.put (by omega) hi _ _ _ _ _ _ _).mono (by omega), length_set⟩
 | sync hi => exact ⟨(h.sync hi).mono (by omega), length_set⟩
 | send hi fw => exact ⟨(h.send hi fw).mono (by omega), rfl⟩
 | come =>
  refine ⟨(h.come (by omega) d).mono (by omega), ?_⟩
  unfold comeS; repeat' split
  all_goals simp
 | @drop c hc k =>
  refine ⟨?_, rfl⟩
  cases ho : dropL c k with
  | none => exact h.mono (by omega)
  | some c' =>
   refine (h.turn hc fun {tn} w => ?_).mono (by omega)
   have okc := w.chs.ok c w.tp.1
   obtain ⟨h1, h2⟩ := nx_drop okc ho
   exact w.turn (okc.dropL ho) h2 h1 fun q _ e => (not_grown (drop_short ho) e).elim
 | @add c hc k hk =>
  refine ⟨?_, rfl⟩
  cases ho : addL c (k : Int) with
  | none => exact h.mono (by omega)
  | some c' =>
   refine (h.turn hc fun {tn} w => ?_).mono (by omega)
   have okc := w.chs.ok c w.tp.1
   obtain ⟨h1, h2⟩ := nx_add ho
   exact w.turn (okc.addL ho) h2 h1 fun q _ e => (not_grown (add_short ho) e).elim
 | @grow c hc i s hs h1 h2 h3 =>
  refine ⟨?_, rfl⟩
  cases ho : growL c with
  | none => exact h.mono (by omega)
  | some c' =>
   refine (h.turn hc fun {tn} w => ?_).mono (by omega)
   have okc := w.chs.ok c w.tp.1
   obtain ⟨g1, g2⟩ := nx_grow ho
   refine w.turn (okc.growL ho) g2 g1 fun q hq hms => ?_
   cases s with
   | dn l x q => cases h1
   | up l x t =>
    have hv : (ss.map vcOf)[i]? = some x := by rw [List.getElem?_map, hs]; rfl
    obtain ⟨n, t'⟩ := w.at hv
    obtain ⟨ch, e1, e2, e3, e4⟩ := w.chain hv
    have h2 : x.ep = c.ep := h2
    have : ch = c := w.chs.un ch e1 c w.tp.1 (by omega)
    subst this
    have h3 : x.cgt = true := h3
    unfold CS.cgt at h3
    simp only [Bool.and_eq_true, decide_eq_true_eq] at h3
    obtain ⟨⟨⟨l1, l2⟩, -⟩, l3⟩ := h3
    rw [e2] at l2
    obtain ⟨m, m1, m2⟩ := last_of e3 l1 l2
    have := n.me ch e2 m (mem_append_left _ (getLast_mem m1)) m2
    subst this
    exact ⟨i, x, hv, e2, m1, l3⟩
 | enter hi hc => exact ⟨h.enter hN hi hc, length_set⟩
 | crash hi k => exact ⟨(h.crash hi k).mono (by omega), length_set⟩
 | start hi hs => exact ⟨(h.start hi hs).mono (by omega), length_set⟩
theorem WOk.soundL (h : WOk ss cl ml gd N) {i : Nat} {s : LSt} (hi : ss[i]? = some s) : (0 ≤ s.ch.st ∧ s.ch.st ≤ s.ch.du ∧ s.ch.du ≤ s.ch.len ∧ s.ch.lg.length ≤ 256) ∧ (gd <+: s.ch.lg.take s.ch.st.toNat ∨ s.ch.lg.take s.ch.st.toNat <+: gd) ∧ (gd.length < (s.ch.lg.take s.ch.st.toNat).length → WOk ss cl ml (s.ch.lg.take s.ch.st.toNat) N) := by
 cases s with
 | dn l c q => exact ⟨⟨Int.le_refl _, Int.le_refl _, Int.le_refl _, Nat.zero_le _⟩, .inr nil_prefix, fun h => (by simp [LSt.ch, CS.new] at h)⟩
 | up l c t =>
  obtain ⟨tn, top, h1, w⟩ := h.wi
  have hv : (ss.map vcOf)[i]? = some c := by rw [List.getElem?_map, hi]; rfl
  obtain ⟨n, t'⟩ := w.at hv
  obtain ⟨w1, w2⟩ := w.sound hv
  exact ⟨⟨n.st1.1, n.st1.2, t'.ok.du.2, t'.ok.len⟩, w1, fun _ => ⟨h.ok, h.id, h.ncl, h.nml, tn, top, h1, w2⟩⟩
end
section
variable (b : Nat) (vn vc vm vg : Value)
set_option maxRecDepth 10000 in
set_option maxHeartbeats 2000000 in
theorem sound_ct {ss : List LSt} {ns : List Nl} {hw : Hp} (hN : Nds ss ns vn hw) (hns : ns.length ≤ 1000) {cl : List Ch} {ml : List Lt} {gd : List Ent} {N : Int} (h : WOk ss cl ml gd N) {hg : Hp} (hgs : IsSl 43 gd vg hg) (hgl : gd.length ≤ 256) :
  Ct prog 35 [.pointer (some ⟨b, 0, none⟩)] [WwBk b vn vc vm vg, hw, nhp ns, hg]
   (fun r H' => r = .bool true ∧ ∃ vg' hg' gd', H' = [WwBk b vn vc vm vg', hw, nhp ns, hg'] ∧ IsSl 43 gd' vg' hg' ∧ gd'.length ≤ 256 ∧ WOk ss cl ml gd' N) := by
 have hsn := hN.rs
 obtain ⟨p, k, rfl⟩ := hsn.len
 have hsn' : Rs ns (.slice p ns.length k) hw := hsn
 have hss : ss.length = ns.length := by rw [← hN.ss, length_map]
 refine Ct.mk' func35 rfl rfl rfl (fun g R => ?_)
 try simp only [ca]
 simp only [na]
 try refine runS ?_
 refine W.loop (α := Nat × List Ent × Value × Hp) (fun x => x.1 ≤ ns.length ∧ x.2.1.length ≤ 256 ∧ IsSl 43 x.2.1 x.2.2.1 x.2.2.2 ∧ WOk ss cl ml x.2.1 N) (fun x => [(0, .pointer (some ⟨b, 0, none⟩)), (3, .int .i64 (x.1 : Int))]) (fun x => [WwBk b (.slice p ns.length k) vc vm x.2.2.1, hw, nhp ns, x.2.2.2, R]) (fun x => ns.length - x.1)
  (0, gd, vg, hg) ⟨Nat.zero_le _, hgl, hgs, h⟩ (by repeat (first | exact Fsub.nil | refine Fsub.cons rfl ?_)) (Hsub.of_picks inferInstance) ?_
 clear h hgs hgl
 rintro ⟨i, gd, vg, hg⟩ ⟨hi, hgl, hgs, h⟩
 simp only [] at hi hgl hgs h ⊢
 have hgr := hgs.rs
 obtain ⟨pg, kg, rfl⟩ := hgr.len
 by_cases hlt : i < ns.length
 ·obtain ⟨m, hm⟩ : ∃ m, ns[i]? = some m := ⟨_, List.getElem?_eq_getElem hlt⟩
  have hms : ss[i]? = some m.s := by rw [← hN.ss, List.getElem?_map, hm]; rfl
  obtain ⟨⟨q1, q2, q3, q4⟩, hpre, hnew⟩ := h.soundL hms
  obtain ⟨cb, d, w, v, hv, seg, t, hd, eh, at_⟩ := hN.at_ m (mem_of_getElem? hm)
  have hlen : m.s.ch.len = (m.s.ch.lg.length : Int) := rfl
  have hlo := clog_ct m.s.ch cb at_.sl.rs (by omega)
  have hst := cstab_ct m.s.ch cb v
  refine W.perm (H' := [WwBk b (.slice p ns.length k) vc vm (.slice pg gd.length kg), hw, hg, nhp (ns.take i), LgBk m.b cb m.s.c0.dc m.s.c0.rg m.s.c0.nd d w m.s.isUp, CsBk cb m.s.ch v, hv, WBk w d seg t, hd, nhp (ns.drop (i + 1)), R]) ?_ ?_
  ·refine List.Perm.trans (List.Perm.flatten (List.Perm.cons _ (List.Perm.cons _ (List.Perm.swap _ _ _)))) (List.Perm.of_eq (by simp [nhp_split hm, eh]))
  generalize m.s.ch = c at *
  try refine runS ?_
  refine W.mixN 8 [true, true, true, true, false, true, true, true, true, false] [WwBk b (.slice p ns.length k) vc vm (.slice pg gd.length kg), LgBk m.b cb m.s.c0.dc m.s.c0.rg m.s.c0.nd d w m.s.isUp, CsBk cb c v, hv] Tryz.mix (by kernel_rfl) ?_
  try refine runS ?_
  refine WX.call rfl hlo rfl ?_
  rintro vL _ ⟨hL, hsL, rfl⟩
  simp only [ca, na]
  repeat' (first | refine runS ?_ | refine WX.callQ rfl hst rfl ?_ | fail)
  have hsr := hsL.rs
  obtain ⟨pL, kL, rfl⟩ := hsr.len
  have hX : Rs (c.lg.take c.st.toNat) (.slice pL c.st.toNat kL) hL := hsr.take (by omega)
  have hXl : (c.lg.take c.st.toNat).length = c.st.toNat := by rw [length_take]; omega
  refine WX.as 31 (.int .i64 (c.st.toNat : Int)) rfl (by congr 1; omega) ?_
  have hK : c.st.toNat ≤ c.lg.length := by omega
  obtain ⟨K, hKK⟩ : ∃ K, c.st.toNat = K := ⟨_, rfl⟩
  obtain ⟨X, hXX⟩ : ∃ X, c.lg.take c.st.toNat = X := ⟨_, rfl⟩
  rw [hXX] at hX hXl hpre hnew
  rw [hKK] at hX hXl hK ⊢
  have hbk : ∀ {n L Q e vg' hg'}, D g Q e n L [WwBk b (.slice p ns.length k) vc vm vg', hw, nhp ns, hg', R] → D g Q e n L [WwBk b (.slice p ns.length k) vc vm vg', hw, hg', nhp (ns.take i), LgBk m.b cb m.s.c0.dc m.s.c0.rg m.s.c0.nd d w m.s.isUp, CsBk cb c v, hv, WBk w d seg t, hd, nhp (ns.drop (i + 1)), R] :=
   fun h => D.perm (List.Perm.trans (List.Perm.of_eq (by simp [nhp_split hm, eh])) (List.Perm.flatten (List.Perm.cons _ (List.Perm.cons _ (List.Perm.swap _ _ _))))) h
  by_cases hlt2 : gd.length < K
  ·have hp1 : gd = X.take gd.length := by
    rcases hpre with h1 | h1
    ·exact (prefix_iff_eq_take.1 h1)
    ·have := h1.length_le; omega
   have hpc := prefix_ct hgr hX hp1 (by omega)
   repeat' (first | refine runS ?_ | refine WX.callQ rfl hpc rfl ?_ | fail)
   refine I.bs ?_
   refine WX.lit (ys := ([] : List Ent)) (vs := []) rfl rfl rfl rfl rfl rfl (by decide) rfl (fun v1 h1 hs1 => ?_)
   try refine runS ?_
   refine WX.app rfl rfl hs1 hX rfl rfl (by decide) (by simp only [length_nil]; omega) rfl (fun v2 h2 hs2 => ?_)
   rw [nil_append] at hs2
   obtain ⟨p2, k2, e2⟩ := hs2.rs.len
   subst e2
   try refine run ?_
   refine D.sub (H' := [WwBk b (.slice p ns.length k) vc vm (.slice p2 X.length k2), hw, h2, nhp (ns.take i), LgBk m.b cb m.s.c0.dc m.s.c0.rg m.s.c0.nd d w m.s.isUp, CsBk cb c v, hv, WBk w d seg t, hd, nhp (ns.drop (i + 1)), R]) (Fsub.refl _) (Hsub.of_picks inferInstance) ?_
   refine hbk ?_
   exact D.rd (i + 1, X, .slice p2 X.length k2, h2) ⟨by simp only []; omega, by simp only []; omega, hs2, hnew (by omega)⟩ (by simp only []; omega)
  ·have hp1 : X = gd.take X.length := by
    rcases hpre with h1 | h1
    ·have : gd = X := h1.eq_of_length (by have := h1.length_le; omega)
     rw [this, take_length]
    ·exact (prefix_iff_eq_take.1 h1)
   have hX' : Rs X (.slice pL X.length kL) hL := by rw [hXl]; exact hX
   have hpc := prefix_ct hX' hgr hp1 (by omega)
   rw [hXl] at hpc
   repeat' (first | refine runS ?_ | refine WX.callQ rfl hpc rfl ?_ | fail)
   refine D.sub (H' := [WwBk b (.slice p ns.length k) vc vm (.slice pg gd.length kg), hw, hg, nhp (ns.take i), LgBk m.b cb m.s.c0.dc m.s.c0.rg m.s.c0.nd d w m.s.isUp, CsBk cb c v, hv, WBk w d seg t, hd, nhp (ns.drop (i + 1)), R]) (Fsub.refl _) (Hsub.of_picks inferInstance) ?_
   refine hbk ?_
   exact D.rd (i + 1, gd, .slice pg gd.length kg, hg) ⟨by simp only []; omega, hgl, hgs, h⟩ (by simp only []; omega)
 ·obtain rfl : i = ns.length := by omega
  try refine runS ?_
  exact D.fin1 [WwBk b (.slice p ns.length k) vc vm (.slice pg gd.length kg), hw, nhp ns, hg] _ rfl rfl ⟨rfl, _, _, gd, rfl, hgs, hgl, h⟩
end
def fstC (n : Nat) (j : Int) : CS := ⟨0, 0, j, some (firstCh n), 1, 0, [], 0, 0, 0, 0, true⟩
def fstS (n : Nat) (j : Int) : LSt := ((LSt.up [] (CS.new 0 0 j) 0).enter (firstCh n).cfg).2
theorem fst_mem {n : Nat} {m : Mem} : m ∈ (firstCh n).all ↔ m.sn = 1 ∧ 0 ≤ m.nd ∧ m.nd < n := by
 unfold Ch.all firstCh
 simp only [Option.toList_none, append_nil, mem_map, mem_range]
 constructor
 ·rintro ⟨i, hi, rfl⟩
  exact ⟨rfl, Int.natCast_nonneg _, by show (i : Int) < n; omega⟩
 ·rintro ⟨h1, h2, h3⟩
  refine ⟨m.nd.toNat, by omega, ?_⟩
  obtain ⟨a, b⟩ := m
  simp only [] at h1 h2 h3 ⊢
  rw [h1, Int.toNat_of_nonneg h2]
theorem fst_enter {n : Nat} (h1 : 1 ≤ n) (h4 : n ≤ 4) {j : Int} (hj : 0 ≤ j ∧ j < n) : (CS.new 0 0 j).enter (firstCh n).cfg = ((true, 0), fstC n j) := by
 have ok := first_ok h1 h4
 have hcf : chOf (firstCh n).cfg = firstCh n := chOf_cfg (by have := ok.l4; omega)
 have hm : (⟨j, 1⟩ : Mem) ∈ (firstCh n).all := fst_mem.2 ⟨rfl, hj.1, hj.2⟩
 have hs : sinceO (some (firstCh n)) j = 1 := since_of ok hm
 have e0 : (CS.new 0 0 j).enter0 (firstCh n).cfg = fstC n j := by
  unfold CS.enter0
  rw [hcf, show (CS.new 0 0 j).nd = j from rfl, hs, if_pos ⟨show (1 : Int) ≠ 0 by decide, show (1 : Int) ≠ 0 by decide⟩]
  rfl
 have e1 : (CS.new 0 0 j).resets (firstCh n).cfg = true := by
  unfold CS.resets
  rw [hcf, show (CS.new 0 0 j).nd = j from rfl, hs]
  rfl
 have e2 : (fstC n j).settle = fstC n j := by
  unfold CS.settle
  split
  ·rw [if_pos (show (cfO (fstC n j).co).jo = false from rfl)]; rfl
  ·rfl
 unfold CS.enter
 rw [if_neg (not_not_intro (rightC_of ok)), if_neg (show ¬ (firstCh n).cfg.ep ≤ (cfO (CS.new 0 0 j).co).ep from (show ¬ (1 : Int) ≤ 0 by decide)), e0, e1, e2]
theorem fst_up {n : Nat} (h1 : 1 ≤ n) (h4 : n ≤ 4) {j : Int} (hj : 0 ≤ j ∧ j < n) : ∃ l, fstS n j = .up l (fstC n j) 0 := by
 have hr : roomB [] 2 = true := by decide
 unfold fstS
 show ∃ l, LSt.up (entLS [] (CS.new 0 0 j) (firstCh n).cfg).2.2 (entLS [] (CS.new 0 0 j) (firstCh n).cfg).2.1 0 = _
 unfold entLS
 rw [if_pos hr, fst_enter h1 h4 hj, if_pos rfl]
 exact ⟨_, rfl⟩
theorem fst_ok {n : Nat} (j : Int) : (fstS n j).ok 2 := by
 have : (LSt.up [] (CS.new 0 0 j) 0).ok 0 := LI.nil 0 0 j
 exact this.enter (by decide) _
theorem WOk.first {n : Nat} (h1 : 1 ≤ n) (h4 : n ≤ 4) {ss : List LSt} (hl : ss.length = n) (hs : ∀ (i : Nat) s, ss[i]? = some s → s = fstS n (i : Int)) : WOk ss [firstCh n] [] [] 2 := by
 have ok := first_ok h1 h4
 have hv : ∀ (i : Nat) s, ss[i]? = some s → i < n ∧ vcOf s = fstC n (i : Int) ∧ s.c0 = fstC n (i : Int) := fun i s h => by
  have hi : i < n := by rw [← hl]; exact (List.getElem?_eq_some_iff.1 h).1
  obtain ⟨l, e⟩ := fst_up h1 h4 (j := (i : Int)) ⟨by omega, by omega⟩
  rw [hs i s h, e]; exact ⟨hi, rfl, rfl⟩
 have hvs : ∀ (i : Nat) c, (ss.map vcOf)[i]? = some c → i < n ∧ c = fstC n (i : Int) := fun i c h => by
  rw [List.getElem?_map] at h
  cases hx : ss[i]? with
  | none => rw [hx] at h; cases h
  | some s => rw [hx] at h; cases h; exact ⟨(hv i s hx).1, (hv i s hx).2.1⟩
 refine ⟨fun s h => ?_, fun i s h => by rw [(hv i s h).2.2]; rfl, (show (1 : Int) ≤ 2 by decide), Nat.zero_le _, fun m => if m.sn = 1 ∧ 0 ≤ m.nd ∧ m.nd < n then some (fstC n m.nd) else none, firstCh n, rfl, ?_⟩
 ·obtain ⟨i, hi⟩ := mem_iff_getElem?.1 h
  rw [hs i s hi]; exact fst_ok _
 ·have hin : ∀ {d : Ch}, d ∈ [firstCh n].reverse → d = firstCh n := fun h => by simpa using h
  have hmem : firstCh n ∈ [firstCh n].reverse := by simp
  refine ⟨⟨fun c h => by rw [hin h]; exact ok, fun c h c' h' _ => by rw [hin h, hin h'], fun c h h1 => by rw [hin h] at h1; exact absurd h1 (show ¬ (1 : Int) < 1 by decide)⟩, ⟨hmem, fun d h => by rw [hin h]; exact Int.le_refl _⟩, fun m c h => ?_, fun c h => ?_, fun m c h => ?_, ?_, fun c h c' h' he => ?_, fun l h => (nomatch h), ⟨1, Int.le_refl _, Pot.nil⟩⟩
  ·split at h
   ·rename_i hm
    cases h
    refine ⟨⟨ChO.some ok, ⟨Int.le_refl _, Int.le_refl _⟩, ⟨Int.le_refl _, Int.le_refl _⟩, Nat.zero_le _, fun e he => (nomatch he)⟩, ?_, ⟨_, hmem, rfl⟩, ⟨_, hmem, fst_mem.2 hm, Int.le_refl _⟩, Good.nil⟩
    obtain ⟨a, b⟩ := m
    simp only [] at hm
    unfold CS.me fstC
    rw [hm.1]
   ·cases h
  ·obtain ⟨i, hi⟩ := mem_iff_getElem?.1 h
   obtain ⟨hin, rfl⟩ := hvs i c hi
   refine ⟨if_pos ⟨rfl, Int.natCast_nonneg _, by show (i : Int) < n; omega⟩, fun ch hc q hq => hold.nil, Pot.nil, fun ch hc h2 h3 => Pot.nil, fun ch hc m hm hmn => ?_, ⟨Int.le_refl _, Int.le_refl _⟩, ⟨Int.le_refl _, Int.le_refl _⟩, Int.le_refl _⟩
   cases hc
   have := fst_mem.1 hm
   obtain ⟨a, b⟩ := m
   simp only [] at hmn this
   unfold CS.me
   rw [← hmn, this.1]; rfl
  ·split at h
   ·rename_i hm
    have hx : m.nd.toNat < ss.length := by omega
    refine ⟨vcOf ss[m.nd.toNat], mem_map.2 ⟨_, getElem_mem hx, rfl⟩, ?_⟩
    rw [(hv m.nd.toNat _ (List.getElem?_eq_getElem hx)).2.1]
    exact ⟨by show ((m.nd.toNat : Nat) : Int) = m.nd; omega, by show m.sn ≤ 1; omega⟩
   ·cases h
  ·rw [pairwise_iff_getElem]
   intro i j hi hj hlt
   simp only [getElem_map]
   have e1 := (hvs i _ (List.getElem?_eq_getElem (by simpa using hi))).2
   have e2 := (hvs j _ (List.getElem?_eq_getElem (by simpa using hj))).2
   simp only [getElem_map] at e1 e2
   rw [e1, e2]
   show (i : Int) ≠ (j : Int)
   omega
  ·rw [hin h, hin h'] at he
   omega
structure WMem (ss : List LSt) (cl : List Ch) (ml : List Lt) (gd : List Ent) (b : Nat) (vn vc vm vg : Value) (hw hc hl hg : Hp) (ns : List Nl) : Prop where
 n : Nds ss ns vn hw
 c : IsSl 34 (cl.map (·.cfg)) vc hc
 m : IsSl 129 ml vm hl
 g : IsSl 43 gd vg hg
 gl : gd.length ≤ 256
set_option maxRecDepth 10000 in
set_option maxHeartbeats 2000000 in
theorem started_ct {n : Nat} (h1 : 1 ≤ n) (h4 : n ≤ 4) :
  Ct prog 33 [.int .i64 (n : Int)] [] (fun r H' => ∃ b vn vc vm vg hw hc hl hg ns ss, r = .pointer (some ⟨b, 0, none⟩) ∧ H' = [WwBk b vn vc vm vg, hw, hc, hl, hg, nhp ns] ∧ WMem ss [firstCh n] [] [] b vn vc vm vg hw hc hl hg ns ∧ WOk ss [firstCh n] [] [] 2 ∧ ss.length = n ∧ ∀ (i : Nat) s, ss[i]? = some s → s = fstS n (i : Int)) := by
 have hfc := first_ct h1 h4
 refine Ct.mk' func33 rfl rfl rfl (fun g R => ?_)
 try simp only [ca]
 simp only [na]
 repeat' (first | refine runS ?_ | refine bx rfl (fun _ => ?_) | refine al (fun _ => ?_) | refine bdN [.slice none 0 0, .slice none 0 0, .slice none 0 0, .slice none 0 0] ?_ | refine WX.callQ rfl hfc rfl ?_ | refine sGW Cfg.z.enc (firstCh n).cfg.enc rfl rfl ?_ | fail)
 rename_i b b4
 have n0 : IsSl 34 ([] : List Cfg) (.slice none 0 0) [] := IsSl.nil _
 refine W.flat (H' := [CfBk b4 (firstCh n).cfg, WwBk b (.slice none 0 0) (.slice none 0 0) (.slice none 0 0) (.slice none 0 0), [], [], [], [], R]) (by simp) ?_
 refine W.mixN 8 [true, true, true, true, true, true, false, false] [WwBk b (.slice none 0 0) (.slice none 0 0) (.slice none 0 0) (.slice none 0 0), CfBk b4 (firstCh n).cfg] Tryz.mix (by kernel_rfl) ?_
 repeat' (first | refine runS ?_ | refine lAN (t := 34) (firstCh n).cfg.enc (firstCh n).cfg.enc rfl ?_ | fail)
 refine I.bs ?_
 refine WX.lit (ys := [(firstCh n).cfg]) rfl rfl rfl rfl rfl rfl (by decide) rfl (fun v2 h2 hs2 => ?_)
 try refine runS ?_
 refine WX.app rfl rfl n0 hs2.rs rfl rfl (by decide) (by simp only [length_cons, length_nil]; omega) rfl (fun v3 h3 hs3 => ?_)
 rw [nil_append] at hs3
 obtain ⟨p3, k3, e3⟩ := hs3.rs.len
 subst e3
 try refine run ?_
 refine W.loop (α := Nat × List Nl × Value × Hp) (fun x => x.1 ≤ n ∧ x.2.1.length = x.1 ∧ IsSl 25 x.2.1 x.2.2.1 x.2.2.2 ∧ ∀ (j : Nat) m, x.2.1[j]? = some m → m.s = fstS n (j : Int) ∧ IsLg m.s m.b m.h) (fun x => [(0, .int .i64 (n : Int)), (3, .pointer (some ⟨b, 0, none⟩)), (4, .pointer (some ⟨b4, 0, none⟩)), (6, .int .i64 (x.1 : Int))])
  (fun x => [WwBk b x.2.2.1 (.slice p3 [(firstCh n).cfg].length k3) (.slice none 0 0) (.slice none 0 0), CfBk b4 (firstCh n).cfg, h3, x.2.2.2, nhp x.2.1, [], [], R]) (fun x => n - x.1) (0, [], .slice none 0 0, []) ⟨Nat.zero_le _, rfl, IsSl.nil _, fun j m h => by simp at h⟩ (by repeat (first | exact Fsub.nil | refine Fsub.cons rfl ?_)) (show Hsub _ [WwBk b (.slice none 0 0) (.slice p3 [(firstCh n).cfg].length k3) (.slice none 0 0) (.slice none 0 0), CfBk b4 (firstCh n).cfg, h3, [], [], [], [], R] from (Hsub.of_picks inferInstance)) ?_
 rintro ⟨i, ns, vn, hw⟩ ⟨hi, hnl, hsn, hat⟩
 simp only [] at hi hnl hsn hat ⊢
 obtain ⟨pn, kn, en⟩ := hsn.rs.len
 subst en
 by_cases hlt : i < n
 ·try refine runS ?_
  refine WX.call rfl (lgnew_ct 0 0 (i : Int)) rfl ?_
  rintro _ _ ⟨bl, hl, rfl, rfl, hlg⟩
  simp only [ca, na]
  have okn : (LSt.up [] (CS.new 0 0 (i : Int)) 0).ok 0 := LI.nil 0 0 i
  repeat' (first | refine runS ?_ | refine lAN (t := 34) (firstCh n).cfg.enc (firstCh n).cfg.enc rfl ?_ | fail)
  refine WX.call rfl (lgenter_ct okn hlg (firstCh n).cfg) rfl ?_
  rintro _ _ ⟨rfl, h', rfl, hl'⟩
  have hl' : IsLg (fstS n (i : Int)) bl h' := hl'
  simp only [ca, na]
  try refine runS ?_
  refine I.bs ?_
  refine WX.lit (ys := [(⟨bl, fstS n (i : Int), h'⟩ : Nl)]) rfl rfl rfl rfl rfl rfl (by decide) rfl (fun v4 h4' hs4 => ?_)
  skip
  refine WX.app rfl rfl hsn hs4.rs rfl rfl (by decide) (by simp only [length_cons, length_nil]; omega) rfl (fun v5 h5 hs5 => ?_)
  obtain ⟨p5, k5, e5⟩ := hs5.rs.len
  subst e5
  try refine run ?_
  refine D.sub (H' := [WwBk b (.slice p5 (ns ++ [(⟨bl, fstS n (i : Int), h'⟩ : Nl)]).length k5) (.slice p3 [(firstCh n).cfg].length k3) (.slice none 0 0) (.slice none 0 0), CfBk b4 (firstCh n).cfg, h3, h5, nhp ns, h', [], [], R]) (Fsub.refl _) (Hsub.of_picks inferInstance) ?_
  refine D.perm (H' := [WwBk b (.slice p5 (ns ++ [(⟨bl, fstS n (i : Int), h'⟩ : Nl)]).length k5) (.slice p3 [(firstCh n).cfg].length k3) (.slice none 0 0) (.slice none 0 0), CfBk b4 (firstCh n).cfg, h3, h5, nhp (ns ++ [(⟨bl, fstS n (i : Int), h'⟩ : Nl)]), [], [], R]) (List.Perm.of_eq (by simp [nhp])) ?_
  refine D.rd (i + 1, ns ++ [(⟨bl, fstS n (i : Int), h'⟩ : Nl)], .slice p5 (ns ++ [(⟨bl, fstS n (i : Int), h'⟩ : Nl)]).length k5, h5) ⟨by simp only []; omega, by simp [hnl], hs5, fun j m hj => ?_⟩ (by simp only []; omega)
  simp only [List.getElem?_append] at hj
  split at hj
  ·exact hat j m hj
  ·rename_i hj2
   have : j = ns.length := by
    have := (List.getElem?_eq_some_iff.1 hj).1
    simp at this; omega
   subst this
   rw [Nat.sub_self] at hj
   cases hj
   rw [hnl]
   exact ⟨rfl, hl'⟩
 ·obtain rfl : i = n := by omega
  try refine runS ?_
  refine D.fin1 [WwBk b (.slice pn ns.length kn) (.slice p3 [(firstCh i).cfg].length k3) (.slice none 0 0) (.slice none 0 0), hw, h3, [], [], nhp ns] _ rfl rfl ?_
  have hfs : ∀ (j : Nat) s, (ns.map (·.s))[j]? = some s → s = fstS i (j : Int) := fun j s hj => by
   rw [List.getElem?_map] at hj
   cases hx : ns[j]? with
   | none => rw [hx] at hj; cases hj
   | some x => rw [hx] at hj; cases hj; exact (hat j x hx).1
  exact ⟨b, _, _, _, _, hw, h3, [], [], ns, ns.map (·.s), rfl, rfl, ⟨⟨rfl, hsn.rs, fun x hx => by
   obtain ⟨j, hj⟩ := mem_iff_getElem?.1 hx
   exact (hat j x hj).2⟩, hs3, IsSl.nil _, IsSl.nil _, Nat.zero_le _⟩, WOk.first h1 h4 (by rw [length_map, hnl]) hfs, by rw [length_map, hnl], hfs⟩
structure WSt where
 ss : List LSt
 cl : List Ch
 ml : List Lt
 gd : List Ent
 (vn vc vm vg : Value)
 (hw hc hl hg : Hp)
 ns : List Nl
structure WSt.ok (x : WSt) (b : Nat) (n : Nat) (N : Int) : Prop where
 m : WMem x.ss x.cl x.ml x.gd b x.vn x.vc x.vm x.vg x.hw x.hc x.hl x.hg x.ns
 w : WOk x.ss x.cl x.ml x.gd N
 n : x.ss.length = n
abbrev WSt.hh (x : WSt) (b : Nat) : HH := [WwBk b x.vn x.vc x.vm x.vg, x.hw, x.hc, x.hl, x.hg, nhp x.ns]
def DdOk (d : Dd) : Prop := (-9223372036854775808 ≤ d.n ∧ d.n ≤ 9223372036854775807) ∧ (-9223372036854775808 ≤ d.a ∧ d.a ≤ 9223372036854775807)
section
variable {x : WSt} {b n : Nat} {N : Int} (h : x.ok b n N) (h1 : 1 ≤ n) (h4 : n ≤ 4)
include h
theorem WSt.ok.ns : x.ns.length = n := by rw [← h.n, ← h.m.n.ss, length_map]
theorem WSt.ok.ak : ∀ s ∈ x.ss, s.isUp = true → 0 ≤ s.ch.ak := by
 intro s hs hu
 obtain ⟨i, hi⟩ := mem_iff_getElem?.1 hs
 cases s with
 | dn l c q => cases hu
 | up l c t =>
  obtain ⟨tn, top, -, w⟩ := h.w.wi
  exact (w.at (i := i) (c := c) (by rw [List.getElem?_map, hi]; rfl)).1.ak1.1
theorem WSt.ok.top : ∃ top, x.cl.getLast? = some top ∧ (∀ c ∈ x.cl, ChOk c) ∧ ∀ l ∈ x.ml, 0 ≤ l.to := by
 obtain ⟨tn, top, e, w⟩ := h.w.wi
 exact ⟨top, e, fun c hc => w.chs.ok c (mem_reverse.2 hc), fun l hl => w.to_pos hl⟩
include h1 h4
theorem stepX_ct (hN : N ≤ 900) (d : Dd) (hd : DdOk d) : Ct prog 34 [.pointer (some ⟨b, 0, none⟩), .agg (List.toArray d.enc)] (x.hh b)
   (fun r H' => r = .tuple #[] ∧ ∃ x' : WSt, H' = x'.hh b ∧ x'.ok b n (N + 2) ∧ StepR d x.ss x.cl x.ml x'.ss x'.cl x'.ml) := by
 obtain ⟨top, ht, okc, hto⟩ := h.top
 have hns := h.ns
 have hncl := h.w.ncl
 have hnml := h.w.nml
 have hst := step_ct b x.vn x.vc x.vm x.vg h.m.n h.w.ok (by omega) h.m.c (by omega) ht okc h.m.m (by omega) hto (by omega) (by omega) h.ak d hd.1 hd.2
 have hf := hst.frame (F := [x.hg]) (post' := fun r H' => r = .tuple #[] ∧ ∃ H1, StepPost b x.vn x.vg x.hw d x.ss x.cl x.ml H1 ∧ H' = H1 ++ [x.hg]) (fun r H' ⟨e, p⟩ => ⟨e, H', p, rfl⟩)
 refine (hf.perm (pre' := x.hh b) ?_).packP rfl ?_
 ·refine List.Perm.flatten ?_
  exact (List.Perm.cons _ (List.Perm.cons _ (List.Perm.cons _ (List.Perm.cons _ (List.Perm.swap _ _ _)))))
 ·rintro r H' ⟨rfl, H1, ⟨vc', hc', vm', hl', ns', ss', cl', ml', rfl, hcs, hls, hN', st⟩, rfl⟩
  obtain ⟨w', hlen⟩ := h.w.step (by omega) st
  exact ⟨(⟨ss', cl', ml', x.gd, x.vn, vc', vm', x.vg, x.hw, hc', hl', x.hg, ns'⟩ : WSt).hh b, [], (by rw [append_nil]; exact List.Perm.flatten (List.Perm.cons _ (List.Perm.cons _ (List.Perm.cons _ (List.Perm.cons _ (List.Perm.swap _ _ _)))))), rfl, _, rfl, ⟨⟨hN', hcs, hls, h.m.g, h.m.gl⟩, w', by rw [← h.n]; exact hlen⟩, st⟩
theorem soundX_ct : Ct prog 35 [.pointer (some ⟨b, 0, none⟩)] (x.hh b) (fun r H' => r = .bool true ∧ ∃ x' : WSt, H' = x'.hh b ∧ x'.ok b n N) := by
 have hns := h.ns
 have hso := sound_ct b x.vn x.vc x.vm x.vg h.m.n (by omega) h.w h.m.g h.m.gl
 have hf := hso.frame (F := [x.hc, x.hl]) (post' := fun r H' => r = .bool true ∧ ∃ vg' hg' gd', H' = [WwBk b x.vn x.vc x.vm vg', x.hw, nhp x.ns, hg', x.hc, x.hl] ∧ IsSl 43 gd' vg' hg' ∧ gd'.length ≤ 256 ∧ WOk x.ss x.cl x.ml gd' N) (fun r H' ⟨e, vg', hg', gd', e2, p⟩ => ⟨e, vg', hg', gd', by rw [e2]; rfl, p⟩)
 have hp : ∀ {A B C D E F : Hp}, [A, B, C, D, E, F].Perm [A, B, F, E, C, D] := fun {A B C D E F} =>
  List.Perm.cons _ (List.Perm.cons _ ((perm_append_comm (l₁ := [C, D]) (l₂ := [E, F])).trans (List.Perm.swap _ _ _)))
 refine (hf.perm (pre' := x.hh b) (List.Perm.flatten hp.symm)).packP rfl ?_
 rintro r H' ⟨rfl, vg', hg', gd', rfl, hgs, hgl, w'⟩
 exact ⟨(⟨x.ss, x.cl, x.ml, gd', x.vn, x.vc, x.vm, vg', x.hw, x.hc, x.hl, hg', x.ns⟩ : WSt).hh b, [], (by rw [append_nil]; exact List.Perm.flatten hp), rfl, _, rfl, ⟨h.m.n, h.m.c, h.m.m, hgs, hgl⟩, w', h.n⟩
end
theorem startX_ct {n : Nat} (h1 : 1 ≤ n) (h4 : n ≤ 4) : Ct prog 33 [.int .i64 (n : Int)] [] (fun r H' => ∃ (b : Nat) (x : WSt), r = .pointer (some ⟨b, 0, none⟩) ∧ H' = x.hh b ∧ x.ok b n 2 ∧ (∀ (i : Nat) s, x.ss[i]? = some s → s = fstS n (i : Int)) ∧ x.cl = [firstCh n]) :=
 (started_ct h1 h4).mono fun r H' ⟨b, vn, vc, vm, vg, hw, hc, hl, hg, ns, ss, e1, e2, m, w, e3, e4⟩ => ⟨b, ⟨ss, [firstCh n], [], [], vn, vc, vm, vg, hw, hc, hl, hg, ns⟩, e1, e2, ⟨m, w, e3⟩, e4, rfl⟩
end Go.Proofs.YtejfahjgfedliaaGreat

namespace Go.Proofs.YtejfahjgfedliaaGreat
open Go Go.Sl
end Go.Proofs.YtejfahjgfedliaaGreat

namespace Go.Proofs.YtejfahjgfedliaaGreat
open Go Go.Sl List
theorem nhp_one {ns : List Nl} {i : Nat} {m : Nl} (hm : ns[i]? = some m) : (nhp ns).Perm (m.h ++ (nhp (ns.take i) ++ nhp (ns.drop (i + 1)))) := by
 rw [nhp_split hm]
 exact (perm_append_comm_assoc _ _ _)
end Go.Proofs.YtejfahjgfedliaaGreat

namespace Go.Proofs.YtejfahjgfedliaaGreat
open Go Go.Sl Go.Proofs.Tryz
set_option maxRecDepth 100000 in
theorem rd_dd : RdOk prog 68 Dd (fun _ d => DdOk d) := Go.Sl.rd_of fun H enc w cs h => by
 have hl : cs.length = 7 := h.len (i := 0)
 obtain ⟨k, e0, _⟩ := (h.field 0).int
 obtain ⟨a, e1, ha⟩ := (h.field 1).int
 obtain ⟨b, e2, _⟩ := (h.field 2).int
 obtain ⟨n, e3, hn⟩ := (h.field 3).int
 obtain ⟨tw, e4⟩ := (h.field 4).bool
 obtain ⟨key, e5, _⟩ := (h.field 5).string
 obtain ⟨val, e6, _⟩ := (h.field 6).string
 have e0 : (cs.drop 0).take 1 = [.int .i64 k] := e0
 have e1 : (cs.drop 1).take 1 = [.int .i64 a] := e1
 have e2 : (cs.drop 2).take 1 = [.int .i64 b] := e2
 have e3 : (cs.drop 3).take 1 = [.int .i64 n] := e3
 have e4 : (cs.drop 4).take 1 = [.bool tw] := e4
 have e5 : (cs.drop 5).take 1 = [.string key] := e5
 have e6 : (cs.drop 6).take 1 = [.string val] := e6
 refine ⟨⟨k, a, b, n, tw, key, val⟩, ?_, ⟨hn.1, hn.2⟩, ⟨ha.1, ha.2⟩⟩
 match cs, hl with
 | [c0, c1, c2, c3, c4, c5, c6], _ =>
  cases e0; cases e1; cases e2; cases e3; cases e4; cases e5; cases e6
  rfl
end Go.Proofs.YtejfahjgfedliaaGreat

namespace Go.Proofs.YtejfahjgfedliaaGreat
open Go Go.Sl List
section
variable {s : LSt} {K : Nat} (h : Fat s.l0 K)
include h
theorem fat_put (key val : ByteArray) (dead : Bool) (deps : V9) (clock cl op : Int) : Fat (s.put key val dead deps clock cl op).2.l0 (K + 1) := by
 cases s with
 | dn l c q => exact h.mono (by omega)
 | up l c t =>
  have h : Fat l K := h
  show Fat (putLS l c key val dead deps clock cl op).2.2 (K + 1)
  unfold putLS
  split
  ·show Fat (grownL l _ c.len) (K + 1)
   unfold grownL
   split
   ·exact h.add1 _
   ·exact h.mono (by omega)
  ·exact h.mono (by omega)
theorem fat_take (fr ep ix : Int) (e : Ent) : Fat (s.take fr ep ix e).2.l0 (K + 1) := by
 cases s with
 | dn l c q => exact h.mono (by omega)
 | up l c t =>
  have h : Fat l K := h
  show Fat (takeLS l c fr ep ix e).2.2 (K + 1)
  unfold takeLS
  split
  ·show Fat (grownL l _ c.len) (K + 1)
   unfold grownL
   split
   ·exact h.add1 _
   ·exact h.mono (by omega)
  ·exact h.mono (by omega)
theorem fat_sync : Fat s.sync.l0 K := by
 cases s with
 | dn l c q => exact h
 | up l c t => exact Fat.sync h
theorem fat_heard (f ep du st : Int) : Fat (s.heard f ep du st).2.l0 K := by
 cases s with
 | dn l c q => exact h
 | up l c t => exact h
theorem fat_crash (k : Int) : Fat (s.crash k).l0 K := by
 cases s with
 | dn l c q => exact h
 | up l c t => exact h
theorem fat_start {s' : LSt} (hs : StartOf s s') : Fat s'.l0 K := by
 cases s with
 | up l c t => cases hs; exact h
 | dn l c q =>
  obtain ⟨l', t', rfl, -, -, -, -, -, h1, -⟩ := hs
  exact h1.2 K h
theorem fat_enter (hK : 1 ≤ K) (x : Cfg) : Fat (s.enter x).2.l0 (K + 1) := by
 cases s with
 | dn l c q => exact h.mono (by omega)
 | up l c t =>
  have h : Fat l K := h
  show Fat (entLS l c x).2.2 (K + 1)
  unfold entLS
  split
  ·split
   ·refine Fat.sync (Fat.add1 ?_ _)
    split
    ·unfold lcut
     split
     ·exact h
     ·exact (Fat.one cutR_code).mono hK
    ·exact h
   ·exact h.mono (by omega)
  ·exact h.mono (by omega)
theorem fat_recv (l : Lt) : Fat (recvL s l).l0 (K + 1) := by
 unfold recvL
 split
 ·exact fat_take h _ _ _ _
 ·exact (fat_heard h _ _ _ _).mono (by omega)
end
structure EndI (ss : List LSt) (cl : List Ch) (K : Nat) : Prop where
 fat : ∀ s ∈ ss, Fat s.l0 K
 mem : ∀ c ∈ cl, ∀ m ∈ c.all, m.nd < (ss.length : Int)
theorem mem_set {α : Type} {l : List α} {i : Nat} {x y : α} (h : y ∈ l.set i x) : y = x ∨ y ∈ l := by
 obtain ⟨j, hj⟩ := mem_iff_getElem?.1 h
 rw [List.getElem?_set] at hj
 split at hj
 ·split at hj
  ·cases hj; exact .inl rfl
  ·cases hj
 ·exact .inr (mem_of_getElem? hj)
theorem EndI.set {ss : List LSt} {cl : List Ch} {K M : Nat} (h : EndI ss cl K) (hM : K ≤ M) {i : Nat} {s' : LSt} (hs : Fat s'.l0 M) : EndI (ss.set i s') cl M :=
 ⟨fun s hm => (mem_set hm).elim (fun e => e ▸ hs) fun hm => (h.fat s hm).mono hM, by rw [length_set]; exact h.mem⟩
theorem EndI.mono {ss : List LSt} {cl : List Ch} {K M : Nat} (h : EndI ss cl K) (hM : K ≤ M) : EndI ss cl M := ⟨fun s hm => (h.fat s hm).mono hM, h.mem⟩
theorem EndI.chain {ss : List LSt} {cl : List Ch} {K : Nat} (h : EndI ss cl K) {o : Option Ch} (ho : ∀ c, o = some c → ∀ m ∈ c.all, m.nd < (ss.length : Int)) : EndI ss (addC cl o) (K + 1) := by
 refine ⟨fun s hm => (h.fat s hm).mono (by omega), fun c hc m hm => ?_⟩
 unfold addC at hc
 split at hc
 ·rename_i x
  rcases mem_append.1 hc with hc | hc
  ·exact h.mem c hc m hm
  ·rw [mem_singleton.1 hc] at hm; exact ho x rfl m hm
 ·exact h.mem c hc m hm
theorem EndI.step {ss : List LSt} {cl : List Ch} {ml : List Lt} {K : Nat} (h : EndI ss cl K) (hK : 1 ≤ K) (okc : ∀ c ∈ cl, ChOk c) {d : Dd} {ss' : List LSt} {cl' : List Ch} {ml' : List Lt} (st : StepR d ss cl ml ss' cl' ml') : EndI ss' cl' (K + 1) := by
 have hf : ∀ {i : Nat} {s : LSt}, ss[i]? = some s → Fat s.l0 K := fun hi => h.fat _ (mem_of_getElem? hi)
 cases st with
 | no => exact h.mono (by omega)
 | put hi cl' op => exact h.set (by omega) (fat_put (hf hi) _ _ _ _ _ _ _)
 | sync hi => exact h.set (by omega) ((fat_sync (hf hi)).mono (by omega))
 | send hi fw => exact h.mono (by omega)
 | come =>
  unfold comeS
  split
  ·exact h.mono (by omega)
  split
  ·exact h.mono (by omega)
  split
  ·exact h.mono (by omega)
  ·rename_i hs
   exact h.set (by omega) (fat_recv (hf hs) _)
 | @drop c hc k =>
  refine h.chain fun c' hc' m hm => ?_
  have : m ∈ c.all := by
   unfold dropL at hc'
   split at hc'
   ·cases hc'
   split at hc'
   ·cases hc'
    unfold Ch.all at hm ⊢
    simp only [Option.toList_none, append_nil] at hm
    exact mem_append_left _ hm
   split at hc'
   ·cases hc'
   ·cases hc'
    unfold Ch.all at hm ⊢
    rcases mem_append.1 hm with hm | hm
    ·exact mem_append_left _ (mem_filter.1 hm).1
    ·exact mem_append_right _ hm
  exact h.mem c (mem_of_getLast? hc) m this
 | @add c hc k hk =>
  refine h.chain fun c' hc' m hm => ?_
  unfold addL at hc'
  split at hc'
  ·cases hc'
  ·cases hc'
   unfold Ch.all at hm
   rcases mem_append.1 hm with hm | hm
   ·exact h.mem c (mem_of_getLast? hc) m (mem_append_left _ hm)
   ·simp at hm; rw [hm]; show (k : Int) < _; omega
 | @grow c hc i s hs h1 h2 h3 =>
  refine h.chain fun c' hc' m hm => ?_
  unfold growL at hc'
  split at hc'
  ·cases hc'
  ·cases hl : c.ln with
   | none => rw [hl] at hc'; cases hc'
   | some q =>
    rw [hl] at hc'
    cases hc'
    exact h.mem c (mem_of_getLast? hc) m (by unfold Ch.all at hm ⊢; rw [hl]; simpa using hm)
 | enter hi hc => exact h.set (by omega) (fat_enter (hf hi) hK _)
 | crash hi k => exact h.set (by omega) ((fat_crash (hf hi) k).mono (by omega))
 | start hi hs => exact h.set (by omega) ((fat_start (hf hi) hs).mono (by omega))
theorem EndI.first {n : Nat} {ss : List LSt} (hl : ss.length = n) (hs : ∀ (i : Nat) s, ss[i]? = some s → s = fstS n (i : Int)) : EndI ss [firstCh n] 2 := by
 refine ⟨fun s h => ?_, fun c hc m hm => ?_⟩
 ·obtain ⟨i, hi⟩ := mem_iff_getElem?.1 h
  rw [hs i s hi]
  exact fat_enter (s := LSt.up [] (CS.new 0 0 (i : Int)) 0) (K := 1) (Fat.nil 1) (Nat.le_refl _) _
 ·rw [mem_singleton.1 hc] at hm
  rw [hl]; exact (fst_mem.1 hm).2.2
structure RdC (top : Ch) (c : CS) : Prop where
 co : c.co = some top
 du : c.du = c.len
 stl : c.last → top.ln = none → c.st = c.du
def Rdy (top : Ch) (s : LSt) : Prop := ∃ l c t, s = .up l c t ∧ RdC top c
theorem stl_settle {top : Ch} {c : CS} (hco : c.co = some top) : c.settle.last → top.ln = none → c.settle.st = c.settle.du := by
 obtain ⟨-, -, s3, s4, -, -, -, s8, -, -⟩ := settle_same c
 intro hl hn
 have hl : c.last := ⟨by have := hl.1; rw [s3] at this; exact this, by have := hl.2; rw [s3, s4] at this; exact this⟩
 rw [s8]
 unfold CS.settle
 rw [if_pos hl, if_pos (by rw [hco]; show top.ln.isSome = false; rw [hn]; rfl)]
theorem rdc_sync {top : Ch} {c : CS} (hco : c.co = some top) : RdC top c.sync := by
 obtain ⟨-, -, -, s4, -, -, s7, s8, -, -⟩ := settle_same ({ c with du := c.len } : CS)
 refine ⟨?_, ?_, ?_⟩
 ·show (CS.settle { c with du := c.len }).co = _; rw [s4]; exact hco
 ·show (CS.settle { c with du := c.len }).du = (CS.settle { c with du := c.len }).len
  rw [s8]; show (c.lg.length : Int) = ((CS.settle { c with du := c.len }).lg.length : Int); rw [s7]
 ·exact stl_settle (c := { c with du := c.len }) hco
theorem rdy_enter {cs : List Ch} {tn : Tn} {vs : List CS} {ml : List Lt} {gd : List Ent} {top : Ch} (w : WI cs tn vs ml gd top) {i : Nat} {c : CS} (hi : vs[i]? = some c) {l : List Lf} {t : Int} {K : Nat} (hf : Fat l K) (hK : K ≤ 900) :
  Rdy top ((LSt.up l c t).enter top.cfg).2.sync := by
 obtain ⟨ch, hc, hco, okc, hep⟩ := w.chain hi
 have okt := w.chs.ok top w.tp.1
 have hcf : chOf top.cfg = top := chOf_cfg (by have := okt.l4; omega)
 have he : ((LSt.up l c t).enter top.cfg).2 = .up (entLS l c top.cfg).2.2 (entLS l c top.cfg).2.1 t := rfl
 rw [he]
 refine ⟨_, _, _, rfl, rdc_sync ?_⟩
 unfold entLS
 rw [if_pos (hf.room hK (by decide) (by decide))]
 unfold CS.enter
 rw [if_neg (not_not_intro (rightC_of okt))]
 by_cases hle : top.cfg.ep ≤ (cfO c.co).ep
 ·rw [if_pos hle]
  have hle : top.ep ≤ c.ep := hle
  have hge := w.tp.2 ch hc
  have : ch = top := w.chs.un ch hc top w.tp.1 (by omega)
  rw [if_neg (by intro e; cases e)]
  show c.co = _
  rw [hco, this]
 ·rw [if_neg hle, if_pos rfl]
  show (CS.settle (c.enter0 top.cfg)).co = _
  rw [(settle_same _).2.2.2.1]
  unfold CS.enter0
  split
  ·show some (chOf top.cfg) = _; rw [hcf]
  ·show some (chOf top.cfg) = _; rw [hcf]
theorem adj_place {ch : Ch} (ok : ChOk ch) {p q : Mem} (h : Adj ch.all p q) : behindO (some ch) p.nd = q.nd ∧ aheadO (some ch) q.nd = p.nd := by
 obtain ⟨a, b, e⟩ := h
 have hp : ch.all[a.length]? = some p := by rw [e]; simp
 have hq : ch.all[a.length + 1]? = some q := by rw [e]; simp
 have nd : ∀ {t : Nat} {m : Mem}, ch.all[t]? = some m → (nodesO (some ch))[t]? = some m.nd := fun {t m} h => by
  rw [show nodesO (some ch) = ch.all.map (·.nd) from rfl, List.getElem?_map, h]; rfl
 have pl : ∀ {t : Nat} {m : Mem}, ch.all[t]? = some m → iplc (nodesO (some ch)) m.nd = (t : Int) := fun {t m} h => by
  obtain ⟨i, h1, -⟩ := iplc_of (nd h)
  obtain ⟨i', h2, h3⟩ := iplc_ge (xs := nodesO (some ch)) (k := m.nd) (by omega)
  obtain ⟨m', h4, h5⟩ := nd_at h3
  have : i' = t := pw_ne ok.up h4 h h5
  rw [h2, this]
 have at_ : ∀ {t : Nat} {m : Mem} {x : Int}, ch.all[t]? = some m → x = (t : Int) → atL (nodesO (some ch)) x = m.nd := fun {t m x} h hx => by
  have h1 := nd h
  have h2 := (List.getElem?_eq_some_iff.1 h1).1
  unfold atL
  rw [if_neg (by omega), hx, Int.toNat_natCast, getD_eq_getElem?_getD, h1, Option.getD_some]
 refine ⟨?_, ?_⟩
 ·unfold behindO
  rw [pl hp, if_neg (by omega)]
  exact at_ hq (by push_cast; rfl)
 ·unfold aheadO
  rw [pl hq]
  exact at_ hp (by push_cast; omega)
def d0 : Dd := ⟨5, 0, 0, 0, false, ByteArray.empty, ByteArray.empty⟩
def delivS (ss : List LSt) (ml : List Lt) : List LSt := if ml = [] then ss else comeS d0 ml ss
theorem deliv_one {ss : List LSt} {x : Lt} {q : Nat} {s : LSt} (hx : x.to = (q : Int)) (hs : ss[q]? = some s) : delivS ss [x] = ss.set q (recvL s x) := by
 have hl := (List.getElem?_eq_some_iff.1 hs).1
 have ha : among d0.n [x].length = 0 := by show among d0.n 1 = 0; decide
 unfold delivS comeS
 rw [if_neg (by simp), ha]
 simp only [List.getElem?_cons_zero]
 rw [if_neg (by rw [hx]; intro h; rcases h with h | h; exact absurd h (by decide); omega), hx, Int.toNat_natCast, hs]
theorem come_nil (x : Lt) : comeM d0 [x] = [] := by
 have ha : among d0.n [x].length = 0 := by show among d0.n 1 = 0; decide
 unfold comeM
 rw [if_pos (.inl rfl), ha]; rfl
def cAt (ss : List LSt) (m : Mem) : CS := match ss[m.nd.toNat]? with
 | some s => s.ch
 | none => CS.new 0 0 0
structure EndR (ss : List LSt) (cl : List Ch) (gd : List Ent) (top : Ch) (N : Int) (K : Nat) : Prop where
 w : WOk ss cl [] gd N
 tp : cl.getLast? = some top
 rd : ∀ s ∈ ss, Rdy top s ∧ Fat s.l0 (K + s.ch.lg.length)
 mem : ∀ m ∈ top.all, m.nd < (ss.length : Int)
 K : K ≤ 600
theorem EndR.mono {ss : List LSt} {cl : List Ch} {gd : List Ent} {top : Ch} {N M : Int} {K : Nat} (h : EndR ss cl gd top N K) (hm : N ≤ M) : EndR ss cl gd top M K := ⟨h.w.mono hm, h.tp, h.rd, h.mem, h.K⟩
section
variable {ss : List LSt} {cl : List Ch} {gd : List Ent} {top : Ch} {N : Int} {K : Nat} (h : EndR ss cl gd top N K)
include h
theorem EndR.okt : ChOk top := by
 obtain ⟨tn, top', h1, w⟩ := h.w.wi
 rw [h.tp] at h1; cases h1
 exact w.chs.ok top w.tp.1
theorem EndR.node {m : Mem} (hm : m ∈ top.all) : ∃ l c t tn, ss[m.nd.toNat]? = some (.up l c t) ∧ cAt ss m = c ∧ RdC top c ∧ Fat l (K + c.lg.length) ∧ c.nd = m.nd ∧ c.me = m ∧ WI cl.reverse tn (ss.map vcOf) [] gd top ∧ NodI cl.reverse tn c ∧ TenI cl.reverse tn c.me c := by
 obtain ⟨tn, top', h1, w⟩ := h.w.wi
 rw [h.tp] at h1; cases h1
 have h0 := (h.okt.rg m hm).1
 have hl := h.mem m hm
 obtain ⟨s, hs⟩ : ∃ s, ss[m.nd.toNat]? = some s := ⟨_, List.getElem?_eq_getElem (by omega)⟩
 obtain ⟨⟨l, c, t, rfl, rc⟩, hf⟩ := h.rd s (mem_of_getElem? hs)
 have hv : (ss.map vcOf)[m.nd.toNat]? = some c := by rw [List.getElem?_map, hs]; rfl
 obtain ⟨n, t'⟩ := w.at hv
 have hnd : c.nd = m.nd := by have := h.w.id _ _ hs; have : c.nd = ((m.nd.toNat : Nat) : Int) := this; omega
 exact ⟨l, c, t, tn, hs, by unfold cAt; rw [hs]; rfl, rc, hf, hnd, (n.me top rc.co m hm hnd.symm).symm, w, n, t'⟩
theorem EndR.pair {p q : Mem} (hA : Adj top.all p q) : (cAt ss q).lg <+: (cAt ss p).lg ∧ 0 ≤ (cAt ss p).ak ∧ (cAt ss p).ak ≤ ((cAt ss q).lg.length : Int) := by
 obtain ⟨l, c, t, tn, h1, h2, h3, h4, h5, h6, w, n, te⟩ := h.node hA.mem1
 obtain ⟨l', c', t', tn', h1', h2', h3', h4', h5', h6', -, -, -⟩ := h.node hA.mem2
 rw [h2, h2']
 have hv : (ss.map vcOf)[p.nd.toNat]? = some c := by rw [List.getElem?_map, h1]; rfl
 have hv' : (ss.map vcOf)[q.nd.toNat]? = some c' := by rw [List.getElem?_map, h1']; rfl
 obtain ⟨hb, -⟩ := adj_place h.okt hA
 have hq0 := (h.okt.rg q hA.mem2).1
 have hpre := w.prefixes hv hv' (by rw [h3.co, h5, hb]; exact hq0) (by rw [h3.co, h5, hb, h5']) (by rw [CS.ep_co h3.co, CS.ep_co h3'.co])
 obtain ⟨n', te'⟩ := w.at hv'
 have hk := n.ak top h3.co q (by rw [h6]; exact hA)
 have ha := n.ak1
 have hd := te.ok.du
 have hlen : c.len = (c.lg.length : Int) := rfl
 rw [← h6', hold.is n'.nt] at hk
 have := (hk.trans (dur_lg c' top.ep)).length_le
 rw [length_take] at this
 exact ⟨hpre.trans (take_prefix _ _), ha.1, by omega⟩
end
theorem cAt_set {ss : List LSt} {q : Nat} {s' : LSt} (hq : q < ss.length) (m : Mem) : cAt (ss.set q s') m = if m.nd.toNat = q then s'.ch else cAt ss m := by
 unfold cAt
 rw [List.getElem?_set]
 by_cases e : q = m.nd.toNat
 ·rw [if_pos e, if_pos hq, if_pos e.symm]
 ·rw [if_neg e, if_neg fun h => e h.symm]
theorem EndR.put {ss : List LSt} {cl : List Ch} {gd : List Ent} {top : Ch} {N M : Int} {K : Nat} (h : EndR ss cl gd top N K) {q : Nat} {s' : LSt} (hw : WOk (ss.set q s') cl [] gd M) (hr : Rdy top s') (hf : Fat s'.l0 (K + s'.ch.lg.length)) : EndR (ss.set q s') cl gd top M K :=
 ⟨hw, h.tp, fun s hs => (mem_set hs).elim (fun e => e ▸ ⟨hr, hf⟩) fun hs => h.rd s hs, by rw [length_set]; exact h.mem, h.K⟩
theorem settle_ge {c : CS} (h1 : c.st ≤ c.du) : c.st ≤ c.settle.st := by
 unfold CS.settle
 split
 ·split
  ·exact h1
  ·split
   ·show c.st ≤ mx c.st c.bs
    unfold mx; split <;> omega
   ·exact Int.le_refl _
 ·exact Int.le_refl _
section
variable {ss : List LSt} {cl : List Ch} {gd : List Ent} {top : Ch} {N : Int} {K : Nat} (h : EndR ss cl gd top N K) (hN : N + 1 < 1099511627776)
include h hN
theorem EndR.ep1 {c : CS} (rc : RdC top c) : ¬ (c.ep = 0 ∨ 200 < ([] : List Lt).length) := by
 have := h.okt.e1
 rw [CS.ep_co rc.co]
 have _ := hN
 simp only [length_nil]
 omega
theorem EndR.fwd {p q : Mem} (hA : Adj top.all p q) {s : LSt} (hs : ss[p.nd.toNat]? = some s) : ∃ s1 s', (delivS ss (sendL s (p.nd.toNat : Int) true []))[q.nd.toNat]? = some s1 ∧ (delivS ss (sendL s (p.nd.toNat : Int) true [])).set q.nd.toNat s1.sync = ss.set q.nd.toNat s' ∧
  EndR (ss.set q.nd.toNat s') cl gd top (N + 1) K ∧ s'.ch.ak = (cAt ss q).ak ∧ (cAt ss q).lg <+: s'.ch.lg ∧ ((cAt ss p).ak = ((cAt ss q).lg.length : Int) → (cAt ss q).lg.length < (cAt ss p).lg.length → s'.ch.lg.length = (cAt ss q).lg.length + 1) := by
 obtain ⟨l, c, t, tn, h1, h2, h3, h4, h5, h6, w, n, te⟩ := h.node hA.mem1
 obtain ⟨l', c', t', tn', h1', h2', h3', h4', h5', h6', -, n', te'⟩ := h.node hA.mem2
 obtain ⟨g1, g2, g3⟩ := h.pair hA
 rw [hs] at h1; cases h1
 have hp0 := (h.okt.rg p hA.mem1).1
 have hq0 := (h.okt.rg q hA.mem2).1
 obtain ⟨hb, ha⟩ := adj_place h.okt hA
 have hpi : ((p.nd.toNat : Nat) : Int) = p.nd := Int.toNat_of_nonneg hp0
 have hqi : ((q.nd.toNat : Nat) : Int) = q.nd := Int.toNat_of_nonneg hq0
 have hsend := h.w.send hs true
 have hokd := te.ok.du
 have hol := te.ok.len
 have hlen : c.len = (c.lg.length : Int) := rfl
 have hlen' : c'.len = (c'.lg.length : Int) := rfl
 have hdu := h3.du
 rw [h2] at g1 g2 g3 ⊢
 rw [h2'] at g1 g3 ⊢
 have hpl := g1.length_le
 have hcom := fun ml' (hw : WOk ss cl ml' gd N) => hw.come (by omega) d0
 have fin : ∀ {x : LSt} {M : Int}, WOk (ss.set q.nd.toNat x) cl [] gd M → M ≤ N + 1 → (∃ l2 c2 t2, x = .up l2 c2 t2 ∧ c2.co = some top ∧ c2.ak = c'.ak ∧ c'.lg <+: c2.lg ∧ Fat l2 (K + c2.lg.length) ∧ (c.ak = (c'.lg.length : Int) → c'.lg.length < c.lg.length → c2.lg.length = c'.lg.length + 1)) →
   ∃ s', (ss.set q.nd.toNat x).set q.nd.toNat x.sync = ss.set q.nd.toNat s' ∧ EndR (ss.set q.nd.toNat s') cl gd top (N + 1) K ∧ s'.ch.ak = c'.ak ∧ c'.lg <+: s'.ch.lg ∧ (c.ak = (c'.lg.length : Int) → c'.lg.length < c.lg.length → s'.ch.lg.length = c'.lg.length + 1) := by
  rintro x M hw hM ⟨l2, c2, t2, rfl, k1, k2, k3, k4, k5⟩
  have hql : q.nd.toNat < ss.length := (List.getElem?_eq_some_iff.1 h1').1
  have hw2 := hw.sync (i := q.nd.toNat) (s := .up l2 c2 t2) (by rw [List.getElem?_set, if_pos rfl, if_pos hql])
  obtain ⟨-, -, -, -, -, -, s7, -, s9, -⟩ := settle_same ({ c2 with du := c2.len } : CS)
  rw [set_set] at hw2 ⊢
  have e1 : (LSt.up l2 c2 t2).sync.ch.lg = c2.lg := s7
  refine ⟨_, rfl, h.put (hw2.mono hM) ⟨_, _, _, rfl, rdc_sync k1⟩ ?_, s9.trans k2, by rw [e1]; exact k3, by rw [e1]; exact k5⟩
  rw [e1]; exact Fat.sync k4
 have same : ∃ s', ss.set q.nd.toNat (LSt.up l' c' t').sync = ss.set q.nd.toNat s' ∧ EndR (ss.set q.nd.toNat s') cl gd top (N + 1) K ∧ s'.ch.ak = c'.ak ∧ c'.lg <+: s'.ch.lg ∧ (c.ak = (c'.lg.length : Int) → c'.lg.length < c.lg.length → ¬ (c.nxt.2 = true) → s'.ch.lg.length = c'.lg.length + 1) := by
  have hsm : ss.set q.nd.toNat (.up l' c' t') = ss := by rw [← (List.getElem?_eq_some_iff.1 h1').2]; exact set_getElem_self _
  obtain ⟨-, -, -, -, -, -, s7, -, s9, -⟩ := settle_same ({ c' with du := c'.len } : CS)
  have e1 : (LSt.up l' c' t').sync.ch.lg = c'.lg := s7
  refine ⟨_, rfl, h.put ((h.w.sync h1').mono (by omega)) ⟨_, _, _, rfl, rdc_sync h3'.co⟩ (by rw [e1]; exact Fat.sync h4'), s9, by rw [e1]; exact prefix_rfl, fun k1 k2 k3 => ?_⟩
  exfalso
  apply k3
  unfold CS.nxt
  rw [h3.co, h5, hb, if_neg (by omega), if_pos (by omega)]
 have hE := h.ep1 hN h3
 rw [show sendL (LSt.up l c t) (p.nd.toNat : Int) true [] = sendC c p.nd true [] from by rw [hpi]; rfl]
 have hsc : sendC c p.nd true [] = if c.nxt.2 = true then [⟨p.nd, behindO c.co p.nd, c.ep, c.nxt.1, true, c.lg.getD (c.nxt.1.toNat - 1) Ent.z, 0, 0⟩] else [] := by
  unfold sendC
  rw [if_neg hE, if_pos rfl]; rfl
 have hsend : WOk ss cl (sendC c p.nd true []) gd N := by rw [← hpi]; exact hsend
 cases hnx : c.nxt.2 with
 | false =>
  rw [hnx] at hsc
  have hsc : sendC c p.nd true [] = [] := hsc
  rw [hsc]
  have e0 : delivS ss [] = ss := if_pos rfl
  rw [e0]
  obtain ⟨s', k1, k2, k3, k4, k5⟩ := same
  exact ⟨_, s', h1', k1, k2, k3, k4, fun a b => k5 a b (by rw [hnx]; decide)⟩
 | true =>
  rw [hnx, if_pos rfl, h3.co, hb] at hsc
  obtain ⟨x, hx⟩ : ∃ x : Lt, x = ⟨p.nd, q.nd, c.ep, c.nxt.1, true, c.lg.getD (c.nxt.1.toNat - 1) Ent.z, 0, 0⟩ := ⟨_, rfl⟩
  rw [← hx] at hsc
  rw [hsc] at hsend ⊢
  have hxt : x.to = (q.nd.toNat : Int) := by rw [hx, hqi]
  rw [deliv_one hxt h1']
  have hql : q.nd.toNat < ss.length := (List.getElem?_eq_some_iff.1 h1').1
  refine ⟨recvL (.up l' c' t') x, ?_⟩
  have hcm := hcom _ hsend
  rw [come_nil] at hcm
  have hdel : comeS d0 [x] ss = ss.set q.nd.toNat (recvL (.up l' c' t') x) := by
   have := deliv_one hxt h1'
   unfold delivS at this
   rw [if_neg (by simp)] at this
   exact this
  rw [hdel] at hcm
  have hrv : recvL (.up l' c' t') x = .up (takeLS l' c' x.fr x.ep x.ix x.en).2.2 (takeLS l' c' x.fr x.ep x.ix x.en).2.1 t' := by
   unfold recvL
   rw [if_pos (by rw [hx])]; rfl
  have hgo := fin hcm (Int.le_refl _) ?_
  ·obtain ⟨s', k⟩ := hgo
   exact ⟨s', by rw [List.getElem?_set, if_pos rfl, if_pos hql], k⟩
  ·refine ⟨_, _, _, hrv, ?_⟩
   obtain ⟨hx0, hx1, hx2⟩ := nxt_at te.ok n.ak1.1 hnx
   have hrm : roomB l' 1 = true := h4'.room (by have := h.K; have := te'.ok.len; omega) (by decide) (by decide)
   unfold takeLS
   rw [if_pos hrm]
   by_cases htk : c'.takes x.fr x.ep x.ix x.en
   ·have e2 : c'.take x.fr x.ep x.ix x.en = (true, (c'.push x.en).settle) := if_pos htk
    obtain ⟨-, -, -, s4, -, -, s7, -, s9, -⟩ := settle_same (c'.push x.en)
    rw [e2]
    have e3 : (c'.push x.en).settle.lg = c'.lg ++ [x.en] := s7
    refine ⟨s4.trans h3'.co, s9, by rw [e3]; exact prefix_append _ _, ?_, fun _ _ => by rw [e3]; simp⟩
    show Fat (grownL l' (c'.push x.en).settle c'.len) (K + (c'.push x.en).settle.lg.length)
    rw [grown_push l' c' _ x.en e3, e3]
    have := h4'.add1 (recW x.en)
    simp only [length_append, length_cons, length_nil]
    exact this
   ·have e2 : c'.take x.fr x.ep x.ix x.en = (false, c') := if_neg htk
    rw [e2]
    refine ⟨h3'.co, rfl, prefix_rfl, ?_, fun k1 k2 => ?_⟩
    ·show Fat (grownL l' c' c'.len) _
     rw [grown_same]; exact h4'
    ·exfalso
     apply htk
     have hnx1 : c.nxt.1 = c.ak + 1 := by
      unfold CS.nxt
      rw [h3.co, h5, hb, if_neg (by omega), if_pos (by omega)]
     obtain ⟨e, he⟩ : ∃ e, c.lg[c.nxt.1.toNat - 1]? = some e := ⟨_, List.getElem?_eq_getElem (by omega)⟩
     have hol2 := te'.ok.len
     refine ⟨?_, ?_, ?_, ?_, ?_, ?_⟩
     ·rw [hx]; show c.ep = c'.ep; rw [CS.ep_co h3.co, CS.ep_co h3'.co]
     ·rw [hx]; exact hp0
     ·rw [hx, h3'.co, h5', ha]
     ·rw [hx]; show c.nxt.1 = c'.len + 1; omega
     ·rw [hx]
      show EntR (c.lg.getD _ _)
      rw [getD_eq_getElem?_getD, he, Option.getD_some]
      exact te.ok.es e (mem_of_getElem? he)
     ·show c'.len < 256; omega
theorem EndR.tell {p q : Mem} (hA : Adj top.all p q) {s : LSt} (hs : ss[q.nd.toNat]? = some s) : ∃ s', delivS ss (sendL s (q.nd.toNat : Int) false []) = ss.set p.nd.toNat s' ∧
  EndR (ss.set p.nd.toNat s') cl gd top (N + 1) K ∧ s'.ch.lg = (cAt ss p).lg ∧ s'.ch.ak = ((cAt ss q).lg.length : Int) ∧
  ((cAt ss q).lg.length = (cAt ss p).lg.length → (q ∈ top.ms → (cAt ss q).st = ((cAt ss q).lg.length : Int)) → s'.ch.st = ((cAt ss p).lg.length : Int)) := by
 obtain ⟨l, c, t, tn, h1, h2, h3, h4, h5, h6, w, n, te⟩ := h.node hA.mem1
 obtain ⟨l', c', t', tn', h1', h2', h3', h4', h5', h6', -, n', te'⟩ := h.node hA.mem2
 obtain ⟨g1, g2, g3⟩ := h.pair hA
 rw [hs] at h1'; cases h1'
 have hp0 := (h.okt.rg p hA.mem1).1
 have hq0 := (h.okt.rg q hA.mem2).1
 obtain ⟨hb, ha⟩ := adj_place h.okt hA
 have hpi : ((p.nd.toNat : Nat) : Int) = p.nd := Int.toNat_of_nonneg hp0
 have hqi : ((q.nd.toNat : Nat) : Int) = q.nd := Int.toNat_of_nonneg hq0
 have hsend := h.w.send hs false
 have hlen : c.len = (c.lg.length : Int) := rfl
 have hlen' : c'.len = (c'.lg.length : Int) := rfl
 have hdu := h3.du
 have hdu' := h3'.du
 rw [h2] at g1 g2 g3 ⊢
 rw [h2'] at g1 g3 ⊢
 have hpl := g1.length_le
 have hE := h.ep1 hN h3'
 have hsc : sendC c' q.nd false [] = [⟨q.nd, p.nd, c'.ep, 0, false, Ent.z, c'.du, c'.st⟩] := by
  unfold sendC
  rw [if_neg hE, if_neg (by decide), h3'.co, ha, if_pos hp0]; rfl
 have hsend : WOk ss cl (sendC c' q.nd false []) gd N := by rw [← hqi]; exact hsend
 show ∃ s', delivS ss (sendC c' (q.nd.toNat : Int) false []) = _ ∧ _
 rw [hqi]
 obtain ⟨x, hx⟩ : ∃ x : Lt, x = ⟨q.nd, p.nd, c'.ep, 0, false, Ent.z, c'.du, c'.st⟩ := ⟨_, rfl⟩
 rw [hsc, ← hx] at hsend ⊢
 have hxt : x.to = (p.nd.toNat : Int) := by rw [hx, hpi]
 have hdel := deliv_one hxt h1
 have hcm := hsend.come (by omega) d0
 rw [come_nil] at hcm
 have hdel2 : comeS d0 [x] ss = ss.set p.nd.toNat (recvL (.up l c t) x) := by
  have := hdel
  unfold delivS at this
  rw [if_neg (by simp)] at this
  exact this
 rw [hdel2] at hcm
 have hrv : recvL (.up l c t) x = .up l (c.heard q.nd c'.ep c'.du c'.st).2 t := by
  unfold recvL
  rw [if_neg (by rw [hx]; intro e; cases e), hx]; rfl
 have hep : c'.ep = (cfO c.co).ep := by rw [CS.ep_co h3'.co, h3.co]; rfl
 have hhe : c.heard q.nd c'.ep c'.du c'.st = (true, (c.heard0 q.nd (mn c'.du c.du) (mn c'.st c.du)).settle) := if_pos ⟨hep, hq0, by rw [h3.co, h5, hb]⟩
 rw [hhe] at hrv
 obtain ⟨-, -, -, z4, -, -, z7, z8, -⟩ := heard0_same c q.nd (mn c'.du c.du) (mn c'.st c.du)
 obtain ⟨-, -, -, y4, -, -, y7, y8, y9, y10⟩ := settle_same (c.heard0 q.nd (mn c'.du c.du) (mn c'.st c.du))
 have hmd : mn c'.du c.du = (c'.lg.length : Int) := by unfold mn; split <;> omega
 have hak : (c.heard0 q.nd (mn c'.du c.du) (mn c'.st c.du)).ak = (c'.lg.length : Int) := by
  have : (c.heard0 q.nd (mn c'.du c.du) (mn c'.st c.du)).ak = mx c.ak (mn c'.du c.du) := by
   unfold CS.heard0
   split
   ·rfl
   ·split <;> rfl
  rw [this, hmd]; unfold mx; split <;> omega
 rw [hdel, hrv]
 rw [hrv] at hcm
 have hlg : (c.heard0 q.nd (mn c'.du c.du) (mn c'.st c.du)).settle.lg = c.lg := y7.trans z7
 have hco : (c.heard0 q.nd (mn c'.du c.du) (mn c'.st c.du)).co = some top := z4.trans h3.co
 refine ⟨_, rfl, h.put hcm ⟨_, _, _, rfl, ⟨y4.trans hco, ?_, stl_settle hco⟩⟩ ?_, hlg, y9.trans hak, fun k1 k2 => ?_⟩
 ·rw [y8, z8]
  show c.du = ((c.heard0 q.nd (mn c'.du c.du) (mn c'.st c.du)).settle.lg.length : Int)
  rw [hlg]; exact hdu
 ·show Fat l (K + (c.heard0 q.nd (mn c'.du c.du) (mn c'.st c.du)).settle.lg.length)
  rw [hlg]; exact h4
 ·have hql : p.nd.toNat < ss.length := (List.getElem?_eq_some_iff.1 h1).1
  obtain ⟨tn2, top2, e2, w2⟩ := hcm.wi
  have hv2 : ((ss.set p.nd.toNat (.up l (c.heard0 q.nd (mn c'.du c.du) (mn c'.st c.du)).settle t)).map vcOf)[p.nd.toNat]? = some (c.heard0 q.nd (mn c'.du c.du) (mn c'.st c.du)).settle := by
   rw [List.getElem?_map, List.getElem?_set, if_pos rfl, if_pos hql]; rfl
  have hub := (w2.at hv2).1.st1.2
  rw [y8, z8] at hub
  have hst1 := n.st1
  have hst1' := n'.st1
  have how := n.ow1
  have hbs := te.ok.bs
  have hle : (c.heard0 q.nd (mn c'.du c.du) (mn c'.st c.du)).st ≤ (c.heard0 q.nd (mn c'.du c.du) (mn c'.st c.du)).du ∧ (c.lg.length : Int) ≤ (c.heard0 q.nd (mn c'.du c.du) (mn c'.st c.du)).st := by
   rw [z8]
   unfold CS.heard0
   split
   ·rename_i hfu
    have hqm : q ∈ top.ms := by
     rw [h3.co] at hfu
     obtain ⟨m, m1, m2⟩ := fullC_some hfu
     have : m = q := by
      have a1 : m ∈ top.all := mem_append_left _ m1
      have := w.chs.one w.tp.1 a1 hA.mem2 m2
      exact this
     rw [← this]; exact m1
    have := k2 hqm
    show mx c.st (mn c'.st c.du) ≤ c.du ∧ (c.lg.length : Int) ≤ mx c.st (mn c'.st c.du)
    unfold mx mn
    split <;> split at * <;> omega
   ·rw [hmd, if_pos (.inr (by omega))]
    show mx (mx c.st c.bs) (c'.lg.length : Int) ≤ c.du ∧ (c.lg.length : Int) ≤ mx (mx c.st c.bs) (c'.lg.length : Int)
    have mxle : ∀ {a b m : Int}, a ≤ m → b ≤ m → mx a b ≤ m := fun h1 h2 => by unfold mx; split <;> omega
    have lemx : ∀ {a b : Int}, b ≤ mx a b := fun {a b} => by unfold mx; split <;> omega
    exact ⟨mxle (mxle (by omega) (by omega)) (by omega), by have := @lemx (mx c.st c.bs) (c'.lg.length : Int); omega⟩
  have := settle_ge hle.1
  show (c.heard0 q.nd (mn c'.du c.du) (mn c'.st c.du)).settle.st = (c.lg.length : Int)
  omega
end
structure Liv (ss : List LSt) (top : Ch) (head : List Ent) (r i : Nat) : Prop where
 hd : ∀ m, top.all[0]? = some m → (cAt ss m).lg = head
 lo : ∀ (j : Nat) m, top.all[j + 1]? = some m → (cAt ss m).lg.length = head.length ∨ (if j + 1 ≤ i then r + 1 else r) ≤ (cAt ss m).lg.length + 1 + j * head.length
 ak : 1 ≤ r → ∀ (j : Nat) p q, i ≤ j → top.all[j]? = some p → top.all[j + 1]? = some q → (cAt ss p).ak = ((cAt ss q).lg.length : Int)
structure Liw (ss : List LSt) (top : Ch) (head : List Ent) (r i : Nat) : Prop where
 hd : ∀ m, top.all[0]? = some m → (cAt ss m).lg = head
 lo : ∀ (j : Nat) m, top.all[j + 1]? = some m → (cAt ss m).lg.length = head.length ∨ r + 1 ≤ (cAt ss m).lg.length + 1 + j * head.length
 ak : ∀ (j : Nat) p q, i ≤ j → top.all[j]? = some p → top.all[j + 1]? = some q → (cAt ss p).ak = ((cAt ss q).lg.length : Int)
 st : (∀ m ∈ top.all, (cAt ss m).lg.length = head.length) → ∀ (j : Nat) m, i ≤ j → top.all[j]? = some m → m ∈ top.ms → (cAt ss m).st = (head.length : Int)
section
variable {ss : List LSt} {cl : List Ch} {gd : List Ent} {top : Ch} {N : Int} {K : Nat} (h : EndR ss cl gd top N K)
include h
theorem EndR.upto {head : List Ent} (hd : ∀ m, top.all[0]? = some m → (cAt ss m).lg = head) : ∀ (j : Nat) m, top.all[j]? = some m → (cAt ss m).lg <+: head := by
 intro j
 induction j with
 | zero => intro m hm; rw [hd m hm]; exact prefix_rfl
 | succ j ih =>
  intro m hm
  obtain ⟨p, hp⟩ : ∃ p, top.all[j]? = some p := ⟨_, List.getElem?_eq_getElem (by have := (List.getElem?_eq_some_iff.1 hm).1; omega)⟩
  exact (h.pair (.at hp hm)).1.trans (ih p hp)
theorem EndR.other {i j : Nat} {q m : Mem} (hq : top.all[i]? = some q) (hm : top.all[j]? = some m) (hij : j ≠ i) {s' : LSt} : cAt (ss.set q.nd.toNat s') m = cAt ss m := by
 have h1 := (h.okt.rg q (mem_of_getElem? hq)).1
 have h2 := (h.okt.rg m (mem_of_getElem? hm)).1
 have h3 := h.mem q (mem_of_getElem? hq)
 rw [cAt_set (by omega), if_neg]
 intro e
 exact hij (pw_ne h.okt.up hm hq (by omega))
theorem EndR.self {i : Nat} {q : Mem} (hq : top.all[i]? = some q) {s' : LSt} : cAt (ss.set q.nd.toNat s') q = s'.ch := by
 have h1 := (h.okt.rg q (mem_of_getElem? hq)).1
 have h3 := h.mem q (mem_of_getElem? hq)
 rw [cAt_set (by omega), if_pos rfl]
theorem Liv.fwd {head : List Ent} {r i : Nat} (v : Liv ss top head r i) {p q : Mem} (hp : top.all[i]? = some p) (hq : top.all[i + 1]? = some q) {s' : LSt} {M : Int} (h' : EndR (ss.set q.nd.toNat s') cl gd top M K)
  (e1 : s'.ch.ak = (cAt ss q).ak) (e2 : (cAt ss q).lg <+: s'.ch.lg) (e3 : (cAt ss p).ak = ((cAt ss q).lg.length : Int) → (cAt ss q).lg.length < (cAt ss p).lg.length → s'.ch.lg.length = (cAt ss q).lg.length + 1) : Liv (ss.set q.nd.toNat s') top head r (i + 1) := by
 have hpr := (h.pair (.at hp hq)).1.length_le
 have hpr' := (h'.pair (.at hp hq)).1.length_le
 rw [h.self hq, h.other hq hp (by omega)] at hpr'
 have hup := (h.upto v.hd i p hp).length_le
 have he2 := e2.length_le
 refine ⟨fun m hm => ?_, fun j m hm => ?_, fun hr j a b hj ha hb => ?_⟩
 ·rw [h.other hq hm (by omega)]; exact v.hd m hm
 ·by_cases hji : j = i
  ·subst hji
   rw [hq] at hm; cases hm
   rw [h.self hq, if_pos (Nat.le_refl _)]
   have lo1 := v.lo j q hq
   rw [if_neg (by omega)] at lo1
   by_cases h0 : r = 0
   ·right; omega
   ·have ak := v.ak (by omega) j p q (Nat.le_refl _) hp hq
    by_cases hlt : (cAt ss q).lg.length < (cAt ss p).lg.length
    ·have := e3 ak hlt
     rcases lo1 with lo1 | lo1
     ·omega
     ·right; omega
    ·cases j with
     | zero =>
      left
      have := v.hd p hp
      rw [this] at hpr' hup hlt
      omega
     | succ t =>
      have lo2 := v.lo t p hp
      rw [if_pos (Nat.le_refl _)] at lo2
      rcases lo2 with lo2 | lo2
      ·left; omega
      ·right
       have := Nat.mul_le_mul_right head.length (Nat.le_add_right t 1)
       omega
  ·rw [h.other hq hm (by omega)]
   have := v.lo j m hm
   by_cases hj : j + 1 ≤ i
   ·rw [if_pos hj] at this; rw [if_pos (by omega)]; exact this
   ·rw [if_neg hj] at this; rw [if_neg (by omega)]; exact this
 ·rw [h.other hq hb (by omega)]
  by_cases hji : j = i + 1
  ·subst hji
   rw [hq] at ha; cases ha
   rw [h.self hq, e1]
   exact v.ak hr (i + 1) q b (by omega) hq hb
  ·rw [h.other hq ha (by omega)]
   exact v.ak hr j a b (by omega) ha hb
theorem Liw.tell {head : List Ent} {r i : Nat} (v : Liw ss top head r (i + 1)) {p q : Mem} (hp : top.all[i]? = some p) (hq : top.all[i + 1]? = some q) {s' : LSt} (e1 : s'.ch.lg = (cAt ss p).lg) (e2 : s'.ch.ak = ((cAt ss q).lg.length : Int))
  (e3 : (cAt ss q).lg.length = (cAt ss p).lg.length → (q ∈ top.ms → (cAt ss q).st = ((cAt ss q).lg.length : Int)) → s'.ch.st = ((cAt ss p).lg.length : Int)) : Liw (ss.set p.nd.toNat s') top head r i := by
 have lg : ∀ (j : Nat) m, top.all[j]? = some m → (cAt (ss.set p.nd.toNat s') m).lg = (cAt ss m).lg := fun j m hm => by
  by_cases hji : j = i
  ·subst hji
   rw [hp] at hm; cases hm
   rw [h.self hp, e1]
  ·rw [h.other hp hm hji]
 refine ⟨fun m hm => by rw [lg 0 m hm]; exact v.hd m hm, fun j m hm => by rw [lg _ m hm]; exact v.lo j m hm, fun j a b hj ha hb => ?_, fun hall j m hj hm hf => ?_⟩
 ·rw [lg _ b hb]
  by_cases hji : j = i
  ·subst hji
   rw [hp] at ha; cases ha
   rw [hq] at hb; cases hb
   rw [h.self hp, e2]
  ·rw [h.other hp ha hji]
   exact v.ak j a b (by omega) ha hb
 ·have hall' : ∀ m ∈ top.all, (cAt ss m).lg.length = head.length := fun m hm => by
   obtain ⟨j, hj⟩ := mem_iff_getElem?.1 hm
   rw [← lg j m hj]; exact hall m hm
  by_cases hji : j = i
  ·subst hji
   rw [hp] at hm; cases hm
   have a1 := hall' p (mem_of_getElem? hp)
   have a2 := hall' q (mem_of_getElem? hq)
   rw [h.self hp, e3 (by omega) (fun hqf => by rw [v.st hall' (j + 1) q (Nat.le_refl _) hq hqf, a2]), a1]
  ·rw [h.other hp hm hji]
   exact v.st hall' j m (by omega) hm hf
theorem Liv.turn {head : List Ent} {r : Nat} (v : Liv ss top head r (top.all.length - 1)) : Liw ss top head r (top.all.length - 1) := by
 refine ⟨v.hd, fun j m hm => ?_, fun j p q hj hp hq => ?_, fun hall j m hj hm hf => ?_⟩
 ·have := v.lo j m hm
  have hl := (List.getElem?_eq_some_iff.1 hm).1
  rw [if_pos (by omega)] at this
  exact this
 ·have hl := (List.getElem?_eq_some_iff.1 hq).1
  omega
 ·have hl := (List.getElem?_eq_some_iff.1 hm).1
  have ej : j = top.all.length - 1 := by omega
  subst ej
  have hlast : top.all.getLast? = some m := by rw [List.getLast?_eq_getElem?]; exact hm
  have hln : top.ln = none := by
   cases hq : top.ln with
   | none => rfl
   | some q =>
    have := all_last hq
    rw [hlast] at this; cases this
    have hn := h.okt.nodup
    unfold Ch.all at hn
    rw [hq, nodup_append] at hn
    exact absurd rfl (hn.2.2 m hf m (by simp))
  obtain ⟨l, c, t, tn, h1, h2, h3, h4, h5, h6, w, n, te⟩ := h.node (mem_of_getElem? hm)
  have hms : top.ms.getLast? = some m := by
   unfold Ch.all at hlast
   rw [hln] at hlast
   simpa using hlast
  have hl2 : c.last := by
   refine ⟨by rw [h5]; exact (h.okt.rg m (mem_of_getElem? hm)).1, ?_⟩
   rw [h3.co, h5]
   unfold lastO atL
   have hn1 : (cfO (some top)).n = (top.ms.length : Int) := rfl
   have hl1 := h.okt.l1
   have hnl : (nodesO (some top)).length = top.ms.length := by
    show (top.all.map (·.nd)).length = _
    unfold Ch.all; rw [hln]; simp
   rw [hn1, if_neg (by omega), getD_eq_getElem?_getD]
   have : (nodesO (some top))[((top.ms.length : Int) - 1).toNat]? = some m.nd := by
    show (top.all.map (·.nd))[_]? = _
    rw [List.getElem?_map, show ((top.ms.length : Int) - 1).toNat = top.all.length - 1 by unfold Ch.all; rw [hln]; simp, hm]; rfl
   rw [this]; rfl
  have := hall m (mem_of_getElem? hm)
  rw [h2] at this ⊢
  rw [h3.stl hl2 hln, h3.du]
  show (c.lg.length : Int) = _
  omega
end
theorem Liw.next {ss : List LSt} {top : Ch} {head : List Ent} {r : Nat} (v : Liw ss top head r 0) : Liv ss top head (r + 1) 0 :=
 ⟨v.hd, fun j m hm => by rw [if_neg (by omega)]; exact v.lo j m hm, fun _ j p q hj hp hq => v.ak j p q hj hp hq⟩
theorem Liv.fin {ss : List LSt} {cl : List Ch} {gd : List Ent} {top : Ch} {N : Int} {K : Nat} (h : EndR ss cl gd top N K) {head : List Ent} {r : Nat} (v : Liv ss top head r 0) (hr : 4 * head.length + 12 ≤ r) :
  ∀ m ∈ top.all, (cAt ss m).lg = head := by
 intro m hm
 obtain ⟨j, hj⟩ := mem_iff_getElem?.1 hm
 have hpre := h.upto v.hd j m hj
 refine hpre.eq_of_length ?_
 have hle := hpre.length_le
 cases j with
 | zero => rw [v.hd m hj]
 | succ j =>
  have hl := (List.getElem?_eq_some_iff.1 hj).1
  have h4 := h.okt.l4
  have : top.all.length ≤ 4 := by unfold Ch.all; rw [length_append]; exact h4
  have hj2 : j ≤ 2 := by omega
  rcases v.lo j m hj with h1 | h1
  ·exact h1
  ·rw [if_neg (by omega)] at h1
   have := Nat.mul_le_mul_right head.length hj2
   omega
end Go.Proofs.YtejfahjgfedliaaGreat

namespace Go.Proofs.YtejfahjgfedliaaGreat
open Go Go.Sl Go.Proofs.Tryz List
def WSt.mm (x : WSt) (b : Nat) : Prop := WMem x.ss x.cl x.ml x.gd b x.vn x.vc x.vm x.vg x.hw x.hc x.hl x.hg x.ns
def WSt.node (x : WSt) (i : Nat) (s' : LSt) (m : Nl) (h' : Hp) : WSt := { x with ss := x.ss.set i s', ns := x.ns.set i ⟨m.b, s', h'⟩ }
theorem Nds.len {ss : List LSt} {ns : List Nl} {vn : Value} {hw : Hp} (h : Nds ss ns vn hw) : ss.length = ns.length := by rw [← h.ss, length_map]
theorem Nds.at {ss : List LSt} {ns : List Nl} {vn : Value} {hw : Hp} (h : Nds ss ns vn hw) {i : Nat} {m : Nl} (hm : ns[i]? = some m) : ss[i]? = some m.s ∧ IsLg m.s m.b m.h :=
 ⟨by rw [← h.ss, List.getElem?_map, hm]; rfl, h.at_ m (mem_of_getElem? hm)⟩
section
variable {x : WSt} {b : Nat} (h : x.mm b)
include h
theorem nodeX_ct {i : Nat} {m : Nl} (hm : x.ns[i]? = some m) {f : FuncId} {args : List Value} {u : Value} {s' : LSt}
  (k : Ct prog f args [m.h] (fun r H' => r = u ∧ ∃ h', H' = [h'] ∧ IsLg s' m.b h')) : Ct prog f args (x.hh b) (fun r H' => r = u ∧ ∃ h', H' = (x.node i s' m h').hh b ∧ (x.node i s' m h').mm b) := by
 have hf := k.frame (F := [WwBk b x.vn x.vc x.vm x.vg, x.hw, x.hc, x.hl, x.hg, nhp (x.ns.take i) ++ nhp (x.ns.drop (i + 1))]) (post' := fun r H' => r = u ∧ ∃ h', H' = [h', WwBk b x.vn x.vc x.vm x.vg, x.hw, x.hc, x.hl, x.hg, nhp (x.ns.take i) ++ nhp (x.ns.drop (i + 1))] ∧ IsLg s' m.b h') (fun r H' ⟨e, h', e2, p⟩ => ⟨e, h', by rw [e2]; rfl, p⟩)
 have hp : ∀ (m' : Nl), (x.ns.set i m')[i]? = some m' := fun m' => by rw [List.getElem?_set, if_pos rfl, if_pos (List.getElem?_eq_some_iff.1 hm).1]
 have key : ∀ {A B : Hp} {C : Hp}, C.Perm (A ++ B) → ([A, WwBk b x.vn x.vc x.vm x.vg, x.hw, x.hc, x.hl, x.hg, B] : HH).flatten.Perm ([WwBk b x.vn x.vc x.vm x.vg, x.hw, x.hc, x.hl, x.hg, C] : HH).flatten := fun {A B C} hC => by
  have h1 : ([A, WwBk b x.vn x.vc x.vm x.vg, x.hw, x.hc, x.hl, x.hg, B] : HH).flatten = A ++ ((WwBk b x.vn x.vc x.vm x.vg ++ (x.hw ++ (x.hc ++ (x.hl ++ x.hg)))) ++ B) := by simp
  have h2 : ([WwBk b x.vn x.vc x.vm x.vg, x.hw, x.hc, x.hl, x.hg, C] : HH).flatten = (WwBk b x.vn x.vc x.vm x.vg ++ (x.hw ++ (x.hc ++ (x.hl ++ x.hg)))) ++ C := by simp
  rw [h1, h2]
  exact (perm_append_comm_assoc _ _ _).trans (List.Perm.append_left _ hC.symm)
 refine (hf.perm (pre' := x.hh b) (key (nhp_one hm))).packP rfl ?_
 rintro r H' ⟨rfl, h', rfl, hl⟩
 have h2 := nhp_one (hp ⟨m.b, s', h'⟩)
 rw [take_set_of_le (Nat.le_refl _), drop_set_of_lt (Nat.lt_succ_self _)] at h2
 exact ⟨(x.node i s' m h').hh b, [], by rw [append_nil]; exact (key h2).symm, rfl, h', rfl, ⟨h.n.set hm hl, h.c, h.m, h.g, h.gl⟩⟩
theorem newestX_ct {top : Ch} (ht : x.cl.getLast? = some top) (hn : x.cl.length ≤ 1000000) : Ct prog 37 [.pointer (some ⟨b, 0, none⟩)] (x.hh b) (fun r H' => r = .agg (List.toArray top.cfg.enc) ∧ H' = x.hh b) := by
 have hf := (newest_ct b x.vn x.vc x.vm x.vg ht h.c.rs hn).frame (F := [x.hw, x.hl, x.hg, nhp x.ns]) (post' := fun r H' => r = .agg (List.toArray top.cfg.enc) ∧ H' = [WwBk b x.vn x.vc x.vm x.vg, x.hc, x.hw, x.hl, x.hg, nhp x.ns]) (fun r H' ⟨e, e2⟩ => ⟨e, by rw [e2]; rfl⟩)
 have hp : ([WwBk b x.vn x.vc x.vm x.vg, x.hc, x.hw, x.hl, x.hg, nhp x.ns] : HH).flatten.Perm (x.hh b).flatten := List.Perm.flatten (List.Perm.cons _ (List.Perm.swap _ _ _))
 refine (hf.perm (pre' := x.hh b) hp).packP rfl ?_
 rintro r H' ⟨rfl, rfl⟩
 exact ⟨x.hh b, [], by rw [append_nil]; exact hp.symm, rfl, rfl⟩
theorem sendX_ct {i : Nat} {m : Nl} (hm : x.ns[i]? = some m) {N : Int} (hok : m.s.ok N) (hak : 0 ≤ m.s.ch.ak) (hml : x.ml.length ≤ 1000) (fw : Bool) : Ct prog 41 [.pointer (some ⟨b, 0, none⟩), .int .i64 (i : Int), .bool fw] (x.hh b)
   (fun r H' => r = .tuple #[] ∧ ∃ vm hl, H' = WSt.hh { x with ml := sendL m.s i fw x.ml, vm := vm, hl := hl } b ∧ WSt.mm { x with ml := sendL m.s i fw x.ml, vm := vm, hl := hl } b) := by
 have hf := (send_ct b x.vn x.vc x.vm x.vg h.n.rs hm (h.n.at hm).2 hok.ch hak h.m hml fw).frame (F := [x.hc, x.hg]) (post' := fun r H' => r = .tuple #[] ∧ ∃ vm hl, H' = [WwBk b x.vn x.vc vm x.vg, x.hw, hl, nhp x.ns, x.hc, x.hg] ∧ IsSl 129 (sendL m.s i fw x.ml) vm hl) (fun r H' ⟨e, vm, hl, e2, p⟩ => ⟨e, vm, hl, by rw [e2]; rfl, p⟩)
 have hp : ∀ {A B C D E F : Hp}, [A, B, D, F, C, E].Perm [A, B, C, D, E, F] := fun {A B C D E F} => by
  refine List.Perm.cons _ (List.Perm.cons _ ?_)
  exact (perm_append_comm (l₁ := [D, F]) (l₂ := [C, E])).trans (List.Perm.cons _ (List.Perm.swap _ _ _))
 refine (hf.perm (pre' := x.hh b) (List.Perm.flatten hp)).packP rfl ?_
 rintro r H' ⟨rfl, vm, hl, rfl, hs⟩
 exact ⟨WSt.hh { x with ml := sendL m.s i fw x.ml, vm := vm, hl := hl } b, [], by rw [append_nil]; exact (List.Perm.flatten hp).symm, rfl, vm, hl, rfl, ⟨h.n, h.c, hs, h.g, h.gl⟩⟩
theorem comeX_ct {N : Int} (hok : ∀ s ∈ x.ss, s.ok N) (hN : N < 1099511627776) (hml : x.ml.length ≤ 1000) (hto : ∀ l ∈ x.ml, 0 ≤ l.to) (hn : x.ns.length ≤ 1000) : Ct prog 42 [.pointer (some ⟨b, 0, none⟩), .agg (List.toArray d0.enc)] (x.hh b)
   (fun r H' => r = .tuple #[] ∧ ∃ vm hl ns, H' = WSt.hh { x with ml := comeM d0 x.ml, ss := comeS d0 x.ml x.ss, vm := vm, hl := hl, ns := ns } b ∧ WSt.mm { x with ml := comeM d0 x.ml, ss := comeS d0 x.ml x.ss, vm := vm, hl := hl, ns := ns } b) := by
 have hf := (come_ct b x.vn x.vc x.vm x.vg h.n hok hN h.m hml hto d0 hn (by decide)).frame (F := [x.hc, x.hg]) (post' := fun r H' => r = .tuple #[] ∧ ∃ vm hl ns, H' = [WwBk b x.vn x.vc vm x.vg, x.hw, hl, nhp ns, x.hc, x.hg] ∧ IsSl 129 (comeM d0 x.ml) vm hl ∧ Nds (comeS d0 x.ml x.ss) ns x.vn x.hw) (fun r H' ⟨e, vm, hl, ns, e2, p⟩ => ⟨e, vm, hl, ns, by rw [e2]; rfl, p⟩)
 have hp : ∀ {A B C D E F : Hp}, [A, B, D, F, C, E].Perm [A, B, C, D, E, F] := fun {A B C D E F} => by
  refine List.Perm.cons _ (List.Perm.cons _ ?_)
  exact (perm_append_comm (l₁ := [D, F]) (l₂ := [C, E])).trans (List.Perm.cons _ (List.Perm.swap _ _ _))
 refine (hf.perm (pre' := x.hh b) (List.Perm.flatten hp)).packP rfl ?_
 rintro r H' ⟨rfl, vm, hl, ns, rfl, hs, hn'⟩
 exact ⟨WSt.hh { x with ml := comeM d0 x.ml, ss := comeS d0 x.ml x.ss, vm := vm, hl := hl, ns := ns } b, [], by rw [append_nil]; exact (List.Perm.flatten hp).symm, rfl, vm, hl, ns, rfl, ⟨hn', h.c, hs, h.g, h.gl⟩⟩
end
end Go.Proofs.YtejfahjgfedliaaGreat

namespace Go.Proofs.YtejfahjgfedliaaGreat
open Go Go.Sl List
structure SetI (x : WSt) (b n : Nat) (N : Int) (K j : Nat) (top : Ch) : Prop where
 ok : x.ok b n N
 en : EndI x.ss x.cl K
 tp : x.cl.getLast? = some top
 rd : ∀ (i : Nat) s, i < j → x.ss[i]? = some s → Rdy top s
theorem SetI.next {x : WSt} {b n : Nat} {N : Int} {K j : Nat} {top : Ch} (h : SetI x b n N K j top) (hN : N + 2 < 1099511627776) (hK : K ≤ 600) (hK1 : 1 ≤ K) {s s1 : LSt} (hj : x.ss[j]? = some s) (hs : StartOf s s1) :
  Rdy top (s1.enter top.cfg).2.sync ∧ WOk (x.ss.set j s1) x.cl x.ml x.gd N ∧ WOk ((x.ss.set j s1).set j (s1.enter top.cfg).2) x.cl x.ml x.gd (N + 2) ∧ WOk (((x.ss.set j s1).set j (s1.enter top.cfg).2).set j (s1.enter top.cfg).2.sync) x.cl x.ml x.gd (N + 2) ∧
  EndI (((x.ss.set j s1).set j (s1.enter top.cfg).2).set j (s1.enter top.cfg).2.sync) x.cl (K + 1) ∧ (∀ (i : Nat) s, i < j + 1 → (((x.ss.set j s1).set j (s1.enter top.cfg).2).set j (s1.enter top.cfg).2.sync)[i]? = some s → Rdy top s) := by
 have hjl := (List.getElem?_eq_some_iff.1 hj).1
 have hat : ∀ {l : List LSt} {y : LSt}, j < l.length → (l.set j y)[j]? = some y := fun {l y} hl => by rw [List.getElem?_set, if_pos rfl, if_pos hl]
 have w1 := h.ok.w.start hj hs
 have f0 := h.en.fat s (mem_of_getElem? hj)
 have f1 := fat_start f0 hs
 have hm : top ∈ x.cl := mem_of_getLast? h.tp
 have w2 := w1.enter hN (hat hjl) hm
 have w3 := w2.sync (hat (by rw [length_set]; exact hjl))
 have f2 := fat_enter f1 hK1 top.cfg
 have f3 := fat_sync f2
 obtain ⟨l, c, t, e⟩ := hs.up
 have hr : Rdy top (s1.enter top.cfg).2.sync := by
  obtain ⟨tn, top', e1, w⟩ := w1.wi
  rw [h.tp] at e1; cases e1
  rw [e] at f1 w ⊢
  exact rdy_enter w (i := j) (by rw [List.getElem?_map, hat hjl]; rfl) f1 (by omega)
 refine ⟨hr, w1, w2, w3, ?_, fun i s hi hx => ?_⟩
 ·rw [set_set, set_set]
  exact h.en.set (by omega) f3
 ·rw [set_set, set_set, List.getElem?_set] at hx
  by_cases e : j = i
  ·subst e
   rw [if_pos rfl, if_pos hjl] at hx
   cases hx; exact hr
  ·rw [if_neg e] at hx
   exact h.rd i s (by omega) hx
structure RndI (x : WSt) (b : Nat) (top : Ch) (N : Int) (K n : Nat) : Prop where
 mm : x.mm b
 er : EndR x.ss x.cl x.gd top N K
 ml : x.ml = []
 n : x.ss.length = n
theorem RndI.ns {x : WSt} {b : Nat} {top : Ch} {N : Int} {K n : Nat} (h : RndI x b top N K n) : x.ns.length = n := by rw [← h.mm.n.len]; exact h.n
theorem RndI.ok {x : WSt} {b : Nat} {top : Ch} {N : Int} {K n : Nat} (h : RndI x b top N K n) : x.ok b n N := ⟨h.mm, by rw [h.ml]; exact h.er.w, h.n⟩
theorem SetI.rnd {x : WSt} {b n : Nat} {N : Int} {K : Nat} {top : Ch} (h : SetI x b n N K n top) (hK : K ≤ 600) : RndI { x with ml := [], vm := .slice none 0 0, hl := [] } b top N K n :=
 ⟨⟨h.ok.m.n, h.ok.m.c, IsSl.nil _, h.ok.m.g, h.ok.m.gl⟩, ⟨h.ok.w.mail (by simp) (fun l hl => by cases hl), h.tp, fun s hs => by
  have hs : s ∈ x.ss := hs
  obtain ⟨i, hi⟩ := mem_iff_getElem?.1 hs
  exact ⟨h.rd i s (by have := (List.getElem?_eq_some_iff.1 hi).1; have := h.ok.n; omega) hi, (h.en.fat s hs).mono (by omega)⟩, h.en.mem top (mem_of_getLast? h.tp), hK⟩, rfl, h.ok.n⟩
theorem openX {x : WSt} {b : Nat} (h : x.mm b) {i : Nat} {m : Nl} (hm : x.ns[i]? = some m) : ∃ cb d w v hv seg t hd rest, LgAt m.s cb d w v hv seg t hd ∧ ∀ T : HH, ((x.hh b) ++ T).flatten.Perm
  ([WwBk b x.vn x.vc x.vm x.vg, x.hw, x.hc, x.hl, x.hg, LgBk m.b cb m.s.c0.dc m.s.c0.rg m.s.c0.nd d w m.s.isUp, CsBk cb m.s.ch v, hv, WBk w d seg t, hd, rest] ++ T).flatten := by
 obtain ⟨cb, d, w, v, hv, seg, t, hd, eh, at_⟩ := h.n.at_ m (mem_of_getElem? hm)
 refine ⟨cb, d, w, v, hv, seg, t, hd, nhp (x.ns.take i) ++ nhp (x.ns.drop (i + 1)), at_, fun T => ?_⟩
 have hp1 := nhp_one hm
 rw [eh] at hp1
 have := List.Perm.append_left (WwBk b x.vn x.vc x.vm x.vg ++ (x.hw ++ (x.hc ++ (x.hl ++ x.hg)))) (List.Perm.append_right T.flatten hp1)
 simpa using this
theorem send_few (s : LSt) (a : Int) (fw : Bool) : (sendL s a fw []).length ≤ 1 := by
 cases s with
 | dn l c q => exact Nat.zero_le _
 | up l c t =>
  show (sendC c a fw []).length ≤ 1
  unfold sendC
  repeat' split
  all_goals simp
structure ComI (x0 x : WSt) (b : Nat) (ml0 : List Lt) (N : Int) : Prop where
 mm : x.mm b
 cl : x.cl = x0.cl
 gd : x.gd = x0.gd
 n : x.ss.length = x0.ss.length
 s : x.ml = ml0 ∧ x.ss = x0.ss ∧ WOk x.ss x.cl ml0 x.gd N ∨ x.ml = [] ∧ x.ss = delivS x0.ss ml0 ∧ WOk x.ss x.cl [] x.gd (N + 1)
theorem ComI.end_ {x0 x : WSt} {b : Nat} {ml0 : List Lt} {N : Int} (h : ComI x0 x b ml0 N) (he : x.ml = []) : x.ss = delivS x0.ss ml0 ∧ WOk x.ss x.cl [] x.gd (N + 1) := by
 rcases h.s with ⟨h1, h2, h3⟩ | ⟨-, h2, h3⟩
 ·rw [h1] at he
  subst he
  exact ⟨by rw [h2]; exact (if_pos rfl).symm, h3.mono (by omega)⟩
 ·exact ⟨h2, h3⟩
theorem ComI.ok {x0 x : WSt} {b : Nat} {ml0 : List Lt} {N : Int} (h : ComI x0 x b ml0 N) : WOk x.ss x.cl x.ml x.gd (N + 1) := by
 rcases h.s with ⟨h1, h2, h3⟩ | ⟨h1, h2, h3⟩
 ·rw [h1]; exact h3.mono (by omega)
 ·rw [h1]; exact h3
theorem comeS_len (d : Dd) (ml : List Lt) (ss : List LSt) : (comeS d ml ss).length = ss.length := by
 unfold comeS
 repeat' split
 all_goals simp
theorem ComI.come {x0 x : WSt} {b : Nat} {ml0 : List Lt} {N : Int} (h : ComI x0 x b ml0 N) (hN : N < 1099511627776) (h1 : ml0.length ≤ 1) (hne : x.ml ≠ []) {vm : Value} {hl : Hp} {ns : List Nl}
  (mm : WSt.mm { x with ml := comeM d0 x.ml, ss := comeS d0 x.ml x.ss, vm := vm, hl := hl, ns := ns } b) : ComI x0 { x with ml := comeM d0 x.ml, ss := comeS d0 x.ml x.ss, vm := vm, hl := hl, ns := ns } b ml0 N ∧ comeM d0 x.ml = [] := by
 rcases h.s with ⟨e1, e2, e3⟩ | ⟨e1, -, -⟩
 ·have hw := e3.come hN d0
  have hm : comeM d0 ml0 = [] := by
   cases ml0 with
   | nil => exact absurd e1 hne
   | cons y t =>
    cases t with
    | nil => exact come_nil y
    | cons z t => simp only [length_cons] at h1; omega
  rw [hm] at hw
  refine ⟨⟨mm, h.cl, h.gd, by rw [← h.n]; exact comeS_len _ _ _, .inr ⟨by show comeM d0 x.ml = []; rw [e1]; exact hm, ?_, ?_⟩⟩, by rw [e1]; exact hm⟩
  ·show comeS d0 x.ml x.ss = delivS x0.ss ml0
   rw [e1, e2]; unfold delivS
   rw [if_neg (by rw [← e1]; exact hne)]
  ·show WOk (comeS d0 x.ml x.ss) x.cl [] x.gd (N + 1)
   rw [e1]; exact hw
 ·exact absurd e1 hne
theorem Liv.start {ss : List LSt} {top : Ch} {head : List Ent} (hd : ∀ m, top.all[0]? = some m → (cAt ss m).lg = head) : Liv ss top head 0 0 :=
 ⟨hd, fun j m hm => .inr (by split <;> omega), fun h => absurd h (by omega)⟩
theorem RndI.mono {x : WSt} {b : Nat} {top : Ch} {N M : Int} {K n : Nat} (h : RndI x b top N K n) (hm : N ≤ M) : RndI x b top M K n := ⟨h.mm, h.er.mono hm, h.ml, h.n⟩
theorem RndI.at {x : WSt} {b : Nat} {top : Ch} {N : Int} {K n : Nat} (h : RndI x b top N K n) {p : Mem} (hp : p ∈ top.all) {I : Nat} (hI : p.nd = (I : Int)) :
  ∃ m, x.ns[I]? = some m ∧ x.ss[I]? = some m.s ∧ m.s.ok N ∧ 0 ≤ m.s.ch.ak ∧ cAt x.ss p = m.s.ch ∧ m.s.isUp = true ∧ CsOk m.s.ch ∧ m.s.ch.du = m.s.ch.len := by
 obtain ⟨l, c, t, tn, k1, k2, k3, -, -, -, -, k4, k5⟩ := h.er.node hp
 rw [hI, Int.toNat_natCast] at k1
 have hl := (List.getElem?_eq_some_iff.1 k1).1
 have hn := h.mm.n.len
 obtain ⟨m, hm⟩ : ∃ m, x.ns[I]? = some m := ⟨_, List.getElem?_eq_getElem (by omega)⟩
 have hs := (h.mm.n.at hm).1
 rw [hs] at k1
 have e : m.s = .up l c t := Option.some.inj k1
 refine ⟨m, hm, hs, h.er.w.ok m.s (mem_of_getElem? hs), ?_, ?_, ?_, ?_, ?_⟩ <;> rw [e]
 ·exact k4.ak1.1
 ·exact k2
 ·rfl
 ·exact k5.ok
 ·exact k3.du
end Go.Proofs.YtejfahjgfedliaaGreat

namespace Go.Proofs.YtejfahjgfedliaaGreat
open Go Go.Sl Go.Proofs.Tryz List
set_option maxRecDepth 10000 in
set_option maxHeartbeats 8000000 in
theorem ends_ct (k : Int) {ds : List Dd} {v : Value} {h0 : Hp} (hs : Rs ds v h0) (hd : ∀ d ∈ ds, DdOk d) :
  Ct prog 9 [.int .i64 k, v] [h0] (fun r H' => r = .bool true ∧ H' = [h0]) := by
 obtain ⟨vp, vc, rfl⟩ := hs.len
 refine Ct.mk' func9 rfl rfl rfl (fun g R => ?_)
 try simp only [ca]
 simp only [na]
 repeat' (first | refine runS ?_ | refine WX.callQ rfl lable_ct rfl ?_ | fail)
 by_cases hl : 300 < ds.length
 ·try refine runS ?_
  exact D.fin1 [h0] _ rfl rfl ⟨rfl, rfl⟩
 obtain ⟨n, hn⟩ : ∃ n : Nat, 1 + k % 4 = (n : Int) := ⟨(1 + k % 4).toNat, by omega⟩
 have h1 : 1 ≤ n := by omega
 have h4 : n ≤ 4 := by omega
 repeat' (first | refine runS ?_ | refine WX.mask 2 4 rfl rfl (by decide) (by decide) rfl rfl ?_ | fail)
 refine WX.as 22 (.int .i64 (n : Int)) rfl (by rw [hn]) ?_
 refine WX.call rfl (startX_ct h1 h4) rfl ?_
 rintro _ _ ⟨b, x, rfl, rfl, okx, hfst, hxcl⟩
 have enx : EndI x.ss x.cl 2 := by rw [hxcl]; exact EndI.first okx.n hfst
 simp only [WSt.hh, cons_append, nil_append]
 try refine runS ?_
 refine W.loop (α := Nat × WSt) (fun y => y.1 ≤ ds.length ∧ y.2.ok b n (2 * (y.1 : Int) + 2) ∧ EndI y.2.ss y.2.cl (y.1 + 2)) (fun y => [(1, .slice vp ds.length vc), (5, .pointer (some ⟨b, 0, none⟩)), (6, .int .i64 (y.1 : Int))]) (fun y => [WwBk b y.2.vn y.2.vc y.2.vm y.2.vg, y.2.hw, y.2.hc, y.2.hl, y.2.hg, nhp y.2.ns, h0, R]) (fun y => ds.length - y.1) (0, x) ⟨Nat.zero_le _, okx, enx⟩ (by repeat (first | exact Fsub.nil | refine Fsub.cons rfl ?_)) (Hsub.of_picks inferInstance) ?_
 clear hfst hxcl enx okx
 rintro ⟨i, x⟩ ⟨hi, okx, enx⟩
 simp only [] at hi okx enx ⊢
 by_cases hlt : i < ds.length
 ·obtain ⟨d, hdi⟩ : ∃ d, ds[i]? = some d := ⟨_, List.getElem?_eq_getElem hlt⟩
  have hdd := hd d (mem_of_getElem? hdi)
  repeat' (first | refine runS ?_ | refine WX.loadEW rfl hs hdi rfl rfl ?_ | fail)
  refine WX.call rfl (stepX_ct okx h1 h4 (by omega) d hdd) rfl ?_
  rintro _ _ ⟨rfl, x', rfl, okx', stx'⟩
  simp only [WSt.hh, cons_append, nil_append]
  try refine runS ?_
  obtain ⟨-, -, okcl, -⟩ := okx.top
  have enx' := enx.step (by omega) okcl stx'
  have e1 : 2 * (i : Int) + 2 + 2 = 2 * ((i + 1 : Nat) : Int) + 2 := by omega
  rw [e1] at okx'
  exact D.rd (i + 1, x') ⟨by simp only []; omega, okx', by simpa [Nat.add_right_comm] using enx'⟩ (by simp only []; omega)
 obtain rfl : i = ds.length := by omega
 clear hlt hi
 obtain ⟨top, htop, okcl, -⟩ := okx.top
 try refine runS ?_
 have six : SetI x b n (2 * (ds.length : Int) + 2) (ds.length + 2) 0 top := ⟨okx, enx, htop, fun i s hi => absurd hi (Nat.not_lt_zero _)⟩
 refine W.loop (α := Nat × WSt) (fun y => y.1 ≤ n ∧ SetI y.2 b n (2 * (ds.length : Int) + 2 + 2 * (y.1 : Int)) (ds.length + 2 + y.1) y.1 top) (fun y => [(5, .pointer (some ⟨b, 0, none⟩)), (7, .int .i64 (y.1 : Int))]) (fun y => [WwBk b y.2.vn y.2.vc y.2.vm y.2.vg, y.2.hw, y.2.hc, y.2.hl, y.2.hg, nhp y.2.ns, h0, R]) (fun y => n - y.1) (0, x) ⟨Nat.zero_le _, by simpa using six⟩ (by repeat (first | exact Fsub.nil | refine Fsub.cons rfl ?_)) (Hsub.of_picks inferInstance) ?_
 clear six okcl htop okx enx
 clear x
 rintro ⟨j, ⟨ss, cl, ml, gd, vn, vc', vm, vg, hw, hc, hl', hg, ns⟩⟩ ⟨hj, six⟩
 simp only [] at hj six ⊢
 have hns : ns.length = n := six.ok.ns
 have hrs : Rs ns vn hw := six.ok.m.n.rs
 obtain ⟨pn, kn, rfl⟩ := hrs.len
 have mm0 : WSt.mm ⟨ss, cl, ml, gd, .slice pn ns.length kn, vc', vm, vg, hw, hc, hl', hg, ns⟩ b := six.ok.m
 by_cases hlt : j < n
 ·have hlt' : j < ns.length := by omega
  obtain ⟨m, hm⟩ : ∃ m, ns[j]? = some m := ⟨_, List.getElem?_eq_getElem hlt'⟩
  obtain ⟨hms, hlm⟩ := mm0.n.at hm
  have okm := six.ok.w.ok m.s (mem_of_getElem? hms)
  have hncl : (cl.length : Int) ≤ _ := six.ok.w.ncl
  obtain ⟨s1, ok1, st1, g1⟩ := lgstart okm
  obtain ⟨hr, w1, w2, w3, en3, rd3⟩ := six.next (by omega) (by omega) (by omega) hms st1
  simp only [] at w1 w2 w3 en3 rd3
  try refine runS ?_
  refine WX.call rfl (nodeX_ct mm0 hm (g1 hlm)) rfl ?_
  rintro _ _ ⟨rfl, h', rfl, mm1⟩
  simp only [WSt.hh, WSt.node, cons_append, nil_append] at mm1 ⊢
  have hrs1 : Rs (ns.set j ⟨m.b, s1, h'⟩) (.slice pn ns.length kn) hw := mm1.n.rs
  have hm1 : (ns.set j ⟨m.b, s1, h'⟩)[j]? = some ⟨m.b, s1, h'⟩ := by rw [List.getElem?_set, if_pos rfl, if_pos hlt']
  have hnw := newestX_ct mm1 (top := top) six.tp (by show cl.length ≤ _; omega)
  simp only [WSt.hh] at hnw
  try refine runS ?_
  refine W.mixN 8 [true, true, true, true, true, true, true, true, false] [WwBk b (.slice pn ns.length kn) vc' vm vg, hw] Tryz.mix (by kernel_rfl) ?_
  repeat' (first | refine runS ?_ | refine WX.callQ rfl hnw rfl ?_ | fail)
  refine WX.call rfl (nodeX_ct mm1 hm1 (lgenter_ct ok1 (mm1.n.at hm1).2 top.cfg)) rfl ?_
  rintro _ _ ⟨rfl, h2', rfl, mm2⟩
  simp only [WSt.hh, WSt.node, cons_append, nil_append] at mm2 ⊢
  have hrs2 := mm2.n.rs
  simp only [] at hrs2
  have hl2 : j < ((ns.set j ⟨m.b, s1, h'⟩).set j ⟨m.b, (s1.enter top.cfg).2, h2'⟩).length := by rw [length_set, length_set]; exact hlt'
  have hm2 : ((ns.set j ⟨m.b, s1, h'⟩).set j ⟨m.b, (s1.enter top.cfg).2, h2'⟩)[j]? = some ⟨m.b, (s1.enter top.cfg).2, h2'⟩ := by rw [List.getElem?_set, if_pos rfl, if_pos (by rw [length_set]; exact hlt')]
  have hss : ss.length = n := six.ok.n
  have ok2 := w2.ok (s1.enter top.cfg).2 (mem_of_getElem? (i := j) (by rw [List.getElem?_set, if_pos rfl, if_pos (by rw [length_set]; omega)]))
  try refine runS ?_
  refine WX.call rfl (nodeX_ct mm2 hm2 (lgsync_ct ok2 (mm2.n.at hm2).2)) rfl ?_
  rintro _ _ ⟨rfl, h3', rfl, mm3⟩
  simp only [WSt.hh, WSt.node, cons_append, nil_append] at mm3 ⊢
  try refine runS ?_
  exact D.rd (j + 1, (⟨_, cl, ml, gd, .slice pn ns.length kn, vc', vm, vg, hw, hc, hl', hg, _⟩ : WSt)) ⟨by simp only []; omega, ⟨mm3, w3.mono (by push_cast; omega), by show (((ss.set j s1).set j _).set j _).length = n; rw [length_set, length_set, length_set]; exact hss⟩, en3, six.tp, rd3⟩ (by simp only []; omega)
 have hjn : j = n := by omega
 subst hjn
 clear hlt hj
 have htp := six.tp
 have hN0 : 2 * (ds.length : Int) + 2 + 2 * (j : Int) ≤ 1000 := by omega
 have rn := six.rnd (by omega)
 simp only [] at htp rn
 try refine runS ?_
 refine I.st ?_
 refine stN [.slice pn ns.length kn, vc', vm, vg] [.slice pn ns.length kn, vc', .slice none 0 0, vg] rfl rfl ?_
 try refine runS ?_
 refine WX.sub (H' := [WwBk b (.slice pn ns.length kn) vc' (.slice none 0 0) vg, hw, hc, [], hg, nhp ns, h0, R]) (Fsub.refl _) (Hsub.of_picks inferInstance) ?_
 clear six
 generalize 2 * (ds.length : Int) + 2 + 2 * (j : Int) = N0 at *
 generalize ds.length + 2 + j = K at *
 have okt := rn.er.okt
 have hncl : (cl.length : Int) ≤ _ := rn.er.w.ncl
 have hnw := newestX_ct rn.mm (top := top) htp (by simp only []; omega)
 repeat' (first | refine WX.callQ rfl hnw rfl ?_ | fail)
 refine WX.call rfl (nodes_ct okt) rfl ?_
 rintro vl _ ⟨hL, hsl, rfl⟩
 simp only [ca, na]
 have hrl := hsl.rs
 obtain ⟨pl, kl, rfl⟩ := hrl.len
 try refine runS ?_
 have hal : 1 ≤ top.all.length := by have := okt.l1; unfold Ch.all; rw [length_append]; omega
 have hal4 : top.all.length ≤ 4 := by have := okt.l4; unfold Ch.all; rw [length_append]; exact this
 have nod : ∀ {i : Nat} {q : Mem}, top.all[i]? = some q → ∃ I : Nat, q.nd = (I : Int) ∧ I < j := fun {i q} h => ⟨q.nd.toNat, (Int.toNat_of_nonneg (okt.rg q (mem_of_getElem? h)).1).symm, by
  have h1 := rn.er.mem q (mem_of_getElem? h)
  have h2 := (okt.rg q (mem_of_getElem? h)).1
  have h3 := rn.n
  simp only [] at h1 h3
  omega⟩
 obtain ⟨p0, hp0⟩ : ∃ q, top.all[0]? = some q := ⟨_, List.getElem?_eq_getElem hal⟩
 obtain ⟨I0, hI0, hIj⟩ := nod hp0
 have hli : (top.all.map (·.nd))[0]? = some (I0 : Int) := by rw [List.getElem?_map, hp0, Option.map_some, hI0]
 obtain ⟨m0, hm0, hms0, ok0, -, hc0, -, okc0, -⟩ := rn.at (mem_of_getElem? hp0) hI0
 simp only [] at hm0 hms0 hc0
 have hI0l : I0 < ns.length := (List.getElem?_eq_some_iff.1 hm0).1
 obtain ⟨cb, d', w, v, hv, seg, tt, hd', rest, at_, hop⟩ := openX rn.mm hm0
 simp only [WSt.hh] at hop
 have hop1 := hop [hL, h0, R]
 have hop2 := fun hh => hop [hh, hL, h0, R]
 simp only [ca, na] at hop1 hop2
 have hH : m0.s.ch.lg.length ≤ 256 := by have := okc0.len; have e : m0.s.ch.len = (m0.s.ch.lg.length : Int) := rfl; omega
 have hlo := clog_ct m0.s.ch cb at_.sl.rs (by omega)
 refine W.sub (H' := [WwBk b (.slice pn ns.length kn) vc' (.slice none 0 0) vg, hw, hc, [], hg, nhp ns, hL, h0, R]) (Fsub.refl _) (Hsub.of_picks inferInstance) ?_
 refine W.perm hop1 ?_
 clear hop1 hop
 refine W.mixT (List.replicate 12 true ++ [false]) [WwBk b (.slice pn ns.length kn) vc' (.slice none 0 0) vg, hw, hL, LgBk m0.b cb m0.s.c0.dc m0.s.c0.rg m0.s.c0.nd d' w m0.s.isUp] Tryz.mix (by kernel_rfl) ?_
 try refine runS ?_
 refine WX.call rfl hlo rfl ?_
 rintro vh _ ⟨hh, hsh, rfl⟩
 simp only [ca, na]
 have hrh := hsh.rs
 obtain ⟨ph, kh, rfl⟩ := hrh.len
 try refine runS ?_
 refine W.sub (H' := [WwBk b (.slice pn ns.length kn) vc' (.slice none 0 0) vg, hw, hc, [], hg, LgBk m0.b cb m0.s.c0.dc m0.s.c0.rg m0.s.c0.nd d' w m0.s.isUp, CsBk cb m0.s.ch v, hv, WBk w d' seg tt, hd', rest, hh, hL, h0, R]) (Fsub.refl _) (Hsub.of_picks inferInstance) ?_
 refine W.perm (hop2 hh).symm ?_
 have hhd : ∀ m, top.all[0]? = some m → (cAt ss m).lg = m0.s.ch.lg := fun m hm => by
  rw [hp0] at hm; cases hm
  rw [hc0]
 clear hop2 hlo at_ hc0 ok0 okc0 hms0 hm0 hli hIj hI0 hp0
 generalize m0.s.ch.lg = head at *
 have lv0 : Liv ss top head 0 0 := Liv.start hhd
 have rn0 := rn.mono hN0
 clear rn hhd hnw htp
 refine W.loop (α := Nat × WSt) (fun y => y.1 ≤ 4 * head.length + 12 ∧ RndI y.2 b top (1000 + 8 * (y.1 : Int)) K j ∧ Liv y.2.ss top head y.1 0 ∧ ∀ r', y.1 = r' + 1 → Liw y.2.ss top head r' 0) (fun y => [(5, .pointer (some ⟨b, 0, none⟩)), (8, .slice pl (top.all.map (·.nd)).length kl), (9, .slice ph head.length kh), (10, .int .i64 (y.1 : Int))])
  (fun y => [WwBk b y.2.vn y.2.vc y.2.vm y.2.vg, y.2.hw, y.2.hc, y.2.hl, y.2.hg, nhp y.2.ns, hh, hL, h0, R]) (fun y => 4 * head.length + 12 - y.1) (0, ⟨ss, cl, [], gd, .slice pn ns.length kn, vc', .slice none 0 0, vg, hw, hc, [], hg, ns⟩) ⟨Nat.zero_le _, by simpa using rn0, lv0, fun r' e => by cases e⟩ (by repeat (first | exact Fsub.nil | refine Fsub.cons rfl ?_)) (Hsub.of_picks inferInstance) ?_
 clear rn0 lv0 hrs mm0 hncl hns
 rintro ⟨r, ⟨ss, cl, ml, gd, vn, vc', vm, vg, hw, hc, hl', hg, ns⟩⟩ ⟨hr, rn, lv, lw⟩
 simp only [] at hr rn lv lw ⊢
 obtain rfl : ml = [] := rn.ml
 by_cases hlr : r < 4 * head.length + 12
 ·clear lw
  repeat' (first | refine runS ?_ | refine WX.mul rfl rfl rfl (by omega) ?_ | fail)
  refine W.loop (α := Nat × WSt) (fun y => y.1 + 1 ≤ top.all.length ∧ RndI y.2 b top (1000 + 8 * (r : Int) + (y.1 : Int)) K j ∧ Liv y.2.ss top head r y.1) (fun y => [(5, .pointer (some ⟨b, 0, none⟩)), (8, .slice pl (top.all.map (·.nd)).length kl), (9, .slice ph head.length kh), (10, .int .i64 (r : Int)), (11, .int .i64 (y.1 : Int))])
   (fun y => [WwBk b y.2.vn y.2.vc y.2.vm y.2.vg, y.2.hw, y.2.hc, y.2.hl, y.2.hg, nhp y.2.ns, hh, hL, h0, R]) (fun y => top.all.length - y.1) (0, ⟨ss, cl, [], gd, vn, vc', vm, vg, hw, hc, hl', hg, ns⟩) ⟨hal, by simpa using rn, lv⟩ (by repeat (first | exact Fsub.nil | refine Fsub.cons rfl ?_)) (Hsub.of_picks inferInstance) ?_
  clear rn lv
  rintro ⟨i, ⟨ss, cl, ml, gd, vn, vc', vm, vg, hw, hc, hl', hg, ns⟩⟩ ⟨hi, rn, lv⟩
  simp only [] at hi rn lv ⊢
  obtain rfl : ml = [] := rn.ml
  by_cases hlt : i + 1 < top.all.length
  ·obtain ⟨p, hp⟩ : ∃ q, top.all[i]? = some q := ⟨_, List.getElem?_eq_getElem (by omega)⟩
   obtain ⟨q, hq⟩ : ∃ q, top.all[i + 1]? = some q := ⟨_, List.getElem?_eq_getElem hlt⟩
   obtain ⟨nI, hI, hIj⟩ := nod hp
   obtain ⟨nJ, hJ, hJj⟩ := nod hq
   have hli : (top.all.map (·.nd))[i]? = some (nI : Int) := by rw [List.getElem?_map, hp, Option.map_some, hI]
   have hlj : (top.all.map (·.nd))[i + 1]? = some (nJ : Int) := by rw [List.getElem?_map, hq, Option.map_some, hJ]
   have hIt : p.nd.toNat = nI := by omega
   have hJt : q.nd.toNat = nJ := by omega
   have hll : (top.all.map (·.nd)).length = top.all.length := length_map ..
   obtain ⟨m, hm, hms, hok, hak, -, -, -, -⟩ := rn.at (mem_of_getElem? hp) hI
   simp only [] at hm hms
   try refine runS ?_
   refine WX.call rfl (sendX_ct rn.mm hm hok hak (by simp) true) rfl ?_
   rintro _ _ ⟨rfl, vm1, hl1, rfl, mm1⟩
   simp only [WSt.hh, cons_append, nil_append] at mm1 ⊢
   try refine runS ?_
   refine W.loop (α := WSt) (fun y => ComI ⟨ss, cl, [], gd, vn, vc', vm, vg, hw, hc, hl', hg, ns⟩ y b (sendL m.s (nI : Int) true []) (1000 + 8 * (r : Int) + (i : Int))) (fun _ => [(5, .pointer (some ⟨b, 0, none⟩)), (8, .slice pl (top.all.map (·.nd)).length kl), (9, .slice ph head.length kh), (10, .int .i64 (r : Int)), (11, .int .i64 (i : Int))]) (fun y => [WwBk b y.vn y.vc y.vm y.vg, y.hw, y.hc, y.hl, y.hg, nhp y.ns, hh, hL, h0, R]) (fun y => y.ml.length) ⟨ss, cl, sendL m.s (nI : Int) true [], gd, vn, vc', vm1, vg, hw, hc, hl1, hg, ns⟩ ⟨mm1, rfl, rfl, rfl, .inl ⟨rfl, rfl, rn.er.w.send hms true⟩⟩ (by repeat (first | exact Fsub.nil | refine Fsub.cons rfl ?_)) (Hsub.of_picks inferInstance) ?_
   rintro ⟨ss2, cl2, ml2, gd2, vn2, vc2, vm2, vg2, hw2, hc2, hl2, hg2, ns2⟩ cy
   have hmm : WSt.mm ⟨ss2, cl2, ml2, gd2, vn2, vc2, vm2, vg2, hw2, hc2, hl2, hg2, ns2⟩ b := cy.mm
   have hsm : Rs ml2 vm2 hl2 := hmm.m.rs
   have hlm : ml2.length ≤ 201 := cy.ok.nml
   simp only [] at cy ⊢
   obtain ⟨pm, km, rfl⟩ := hsm.len
   by_cases hne : 0 < ml2.length
   ·have hto : ∀ l ∈ ml2, 0 ≤ l.to := fun l hl => by
     obtain ⟨tn, top', -, w⟩ := cy.ok.wi
     exact w.to_pos hl
    have hnl : ns2.length ≤ 1000 := by
     have e1 : ss2.length = ss.length := cy.n
     have e2 : ss2.length = ns2.length := hmm.n.len
     have e3 : ss.length = j := rn.n
     omega
    repeat' (first | refine runS ?_ | refine bdN d0.enc ?_ | fail)
    refine WX.call rfl (comeX_ct hmm cy.ok.ok (by omega) (by show ml2.length ≤ 1000; omega) hto hnl) rfl ?_
    rintro _ _ ⟨rfl, vm3, hl3, ns3, rfl, mm3⟩
    obtain ⟨cy3, ce3⟩ := cy.come (by omega) (send_few _ _ _) (by intro e; simp only [] at e; rw [e] at hne; exact absurd hne (by decide)) mm3
    simp only [WSt.hh, cons_append, nil_append]
    simp only [] at ce3
    try refine runS ?_
    exact D.rd _ cy3 (by simp only []; rw [ce3]; simpa using hne)
   obtain rfl : ml2 = [] := length_eq_zero_iff.1 (by omega)
   obtain ⟨ess, wok⟩ := cy.end_ rfl
   simp only [] at ess wok
   have ecl : cl2 = cl := cy.cl
   have egd : gd2 = gd := cy.gd
   subst ecl egd
   have hn2 : ns2.length = j := by
    have e1 : ss2.length = ss.length := cy.n
    have e2 : ss2.length = ns2.length := hmm.n.len
    have e3 : ss.length = j := rn.n
    omega
   clear hlm hne
   simp only [length_nil]
   obtain ⟨m2, hm2⟩ : ∃ m, ns2[nJ]? = some m := ⟨_, List.getElem?_eq_getElem (by omega)⟩
   have hnJ : nJ < ns2.length := by omega
   obtain ⟨hms2, hlg2⟩ := hmm.n.at hm2
   simp only [] at hms2
   have ok2 := wok.ok m2.s (mem_of_getElem? hms2)
   have hrs2 : Rs ns2 vn2 hw2 := hmm.n.rs
   obtain ⟨pn2, kn2, rfl⟩ := hrs2.len
   try refine runS ?_
   refine W.mixT (List.replicate 11 true) [WwBk b (.slice pn2 ns2.length kn2) vc2 (.slice pm 0 km) vg2, hw2, hL] Tryz.mix (by kernel_rfl) ?_
   try refine runS ?_
   refine WX.call rfl (nodeX_ct hmm hm2 (lgsync_ct ok2 hlg2)) rfl ?_
   rintro _ _ ⟨rfl, h3', rfl, mm3⟩
   simp only [WSt.hh, WSt.node, cons_append, nil_append] at mm3 ⊢
   obtain ⟨s1, s', f1, f2, er', f3, f4, f5⟩ := rn.er.fwd (by omega) (.at hp hq) (s := m.s) (by rw [hIt]; exact hms)
   have lv' := Liv.fwd rn.er lv hp hq er' f3 f4 f5
   rw [hIt, hJt] at f1 f2
   rw [hJt] at er' lv'
   simp only [] at f1 f2 er' lv'
   rw [ess, f1] at hms2
   obtain rfl : s1 = m2.s := Option.some.inj hms2
   rw [← ess] at f2
   rw [← f2] at er' lv'
   try refine runS ?_
   exact D.rd (i + 1, (⟨_, cl2, [], gd2, .slice pn2 ns2.length kn2, vc2, .slice pm 0 km, vg2, hw2, hc2, hl2, hg2, _⟩ : WSt)) ⟨by simp only []; omega, ⟨mm3, er'.mono (by push_cast; omega), rfl, by show (ss2.set nJ _).length = j; rw [length_set]; have e1 : ss2.length = ns2.length := hmm.n.len; omega⟩, lv'⟩ (by simp only []; omega)
  obtain rfl : i = top.all.length - 1 := by omega
  have lw := Liv.turn rn.er lv
  have rn1 : RndI ⟨ss, cl, [], gd, vn, vc', vm, vg, hw, hc, hl', hg, ns⟩ b top (1008 + 8 * (r : Int) - ((top.all.length - 1 : Nat) : Int)) K j := rn.mono (by omega)
  have hll : (top.all.map (·.nd)).length = top.all.length := length_map ..
  try refine runS ?_
  refine W.as 12 (.int .i64 ((top.all.length - 1 : Nat) : Int)) rfl (by congr 1; omega) ?_
  refine W.loop (α := Nat × WSt) (fun y => y.1 + 1 ≤ top.all.length ∧ RndI y.2 b top (1008 + 8 * (r : Int) - (y.1 : Int)) K j ∧ Liw y.2.ss top head r y.1) (fun y => [(5, .pointer (some ⟨b, 0, none⟩)), (8, .slice pl (top.all.map (·.nd)).length kl), (9, .slice ph head.length kh), (10, .int .i64 (r : Int)), (12, .int .i64 (y.1 : Int))])
   (fun y => [WwBk b y.2.vn y.2.vc y.2.vm y.2.vg, y.2.hw, y.2.hc, y.2.hl, y.2.hg, nhp y.2.ns, hh, hL, h0, R]) (fun y => y.1) (top.all.length - 1, ⟨ss, cl, [], gd, vn, vc', vm, vg, hw, hc, hl', hg, ns⟩) ⟨by simp only []; omega, rn1, lw⟩ (by repeat (first | exact Fsub.nil | refine Fsub.cons rfl ?_)) (Hsub.of_picks inferInstance) ?_
  clear rn rn1 lv lw hi hlt
  rintro ⟨i, ⟨ss, cl, ml, gd, vn, vc', vm, vg, hw, hc, hl', hg, ns⟩⟩ ⟨hi, rn, lw⟩
  simp only [] at hi rn lw ⊢
  obtain rfl : ml = [] := rn.ml
  by_cases hlt : 0 < i
  ·obtain ⟨i, rfl⟩ : ∃ z, i = z + 1 := ⟨i - 1, by omega⟩
   obtain ⟨p, hp⟩ : ∃ q, top.all[i]? = some q := ⟨_, List.getElem?_eq_getElem (by omega)⟩
   obtain ⟨q, hq⟩ : ∃ q, top.all[i + 1]? = some q := ⟨_, List.getElem?_eq_getElem (by omega)⟩
   obtain ⟨nI, hI, hIj⟩ := nod hp
   obtain ⟨nJ, hJ, hJj⟩ := nod hq
   have hlj : (top.all.map (·.nd))[i + 1]? = some (nJ : Int) := by rw [List.getElem?_map, hq, Option.map_some, hJ]
   have hIt : p.nd.toNat = nI := by omega
   have hJt : q.nd.toNat = nJ := by omega
   obtain ⟨m, hm, hms, hok, hak, -, -, -, -⟩ := rn.at (mem_of_getElem? hq) hJ
   simp only [] at hm hms
   have hli1 : i + 1 < (top.all.map (·.nd)).length := by omega
   try refine runS ?_
   refine WX.call rfl (sendX_ct rn.mm hm hok hak (by simp) false) rfl ?_
   rintro _ _ ⟨rfl, vm1, hl1, rfl, mm1⟩
   simp only [WSt.hh, cons_append, nil_append] at mm1 ⊢
   try refine runS ?_
   refine W.loop (α := WSt) (fun y => ComI ⟨ss, cl, [], gd, vn, vc', vm, vg, hw, hc, hl', hg, ns⟩ y b (sendL m.s (nJ : Int) false []) (1008 + 8 * (r : Int) - ((i + 1 : Nat) : Int))) (fun _ => [(5, .pointer (some ⟨b, 0, none⟩)), (8, .slice pl (top.all.map (·.nd)).length kl), (9, .slice ph head.length kh), (10, .int .i64 (r : Int)), (12, .int .i64 ((i + 1 : Nat) : Int))]) (fun y => [WwBk b y.vn y.vc y.vm y.vg, y.hw, y.hc, y.hl, y.hg, nhp y.ns, hh, hL, h0, R]) (fun y => y.ml.length) ⟨ss, cl, sendL m.s (nJ : Int) false [], gd, vn, vc', vm1, vg, hw, hc, hl1, hg, ns⟩ ⟨mm1, rfl, rfl, rfl, .inl ⟨rfl, rfl, rn.er.w.send hms false⟩⟩ (by repeat (first | exact Fsub.nil | refine Fsub.cons rfl ?_)) (Hsub.of_picks inferInstance) ?_
   rintro ⟨ss2, cl2, ml2, gd2, vn2, vc2, vm2, vg2, hw2, hc2, hl2, hg2, ns2⟩ cy
   have hmm : WSt.mm ⟨ss2, cl2, ml2, gd2, vn2, vc2, vm2, vg2, hw2, hc2, hl2, hg2, ns2⟩ b := cy.mm
   have hsm : Rs ml2 vm2 hl2 := hmm.m.rs
   have hlm : ml2.length ≤ 201 := cy.ok.nml
   simp only [] at cy ⊢
   obtain ⟨pm, km, rfl⟩ := hsm.len
   by_cases hne : 0 < ml2.length
   ·have hto : ∀ l ∈ ml2, 0 ≤ l.to := fun l hl => by
     obtain ⟨tn, top', -, w⟩ := cy.ok.wi
     exact w.to_pos hl
    have hnl : ns2.length ≤ 1000 := by
     have e1 : ss2.length = ss.length := cy.n
     have e2 : ss2.length = ns2.length := hmm.n.len
     have e3 : ss.length = j := rn.n
     omega
    repeat' (first | refine runS ?_ | refine bdN d0.enc ?_ | fail)
    refine WX.call rfl (comeX_ct hmm cy.ok.ok (by omega) (by show ml2.length ≤ 1000; omega) hto hnl) rfl ?_
    rintro _ _ ⟨rfl, vm3, hl3, ns3, rfl, mm3⟩
    obtain ⟨cy3, ce3⟩ := cy.come (by omega) (send_few _ _ _) (by intro e; simp only [] at e; rw [e] at hne; exact absurd hne (by decide)) mm3
    simp only [WSt.hh, cons_append, nil_append]
    simp only [] at ce3
    try refine runS ?_
    exact D.rd _ cy3 (by simp only []; rw [ce3]; simpa using hne)
   obtain rfl : ml2 = [] := length_eq_zero_iff.1 (by omega)
   obtain ⟨ess, wok⟩ := cy.end_ rfl
   simp only [] at ess wok
   have ecl : cl2 = cl := cy.cl
   have egd : gd2 = gd := cy.gd
   subst ecl egd
   have hn2 : ns2.length = j := by
    have e1 : ss2.length = ss.length := cy.n
    have e2 : ss2.length = ns2.length := hmm.n.len
    have e3 : ss.length = j := rn.n
    omega
   clear hlm hne
   simp only [length_nil]
   obtain ⟨s', f1, er', f2, f3, f4⟩ := rn.er.tell (by omega) (.at hp hq) (s := m.s) (by rw [hJt]; exact hms)
   have lw' := Liw.tell rn.er lw hp hq f2 f3 f4
   rw [hIt, hJt] at f1
   rw [hIt] at er' lw'
   simp only [] at f1 er' lw'
   rw [← f1, ← ess] at er' lw'
   try refine runS ?_
   refine D.as 12 (.int .i64 (i : Int)) rfl (by congr 1; omega) ?_
   exact D.rd (i, (⟨ss2, cl2, [], gd2, vn2, vc2, .slice pm 0 km, vg2, hw2, hc2, hl2, hg2, ns2⟩ : WSt)) ⟨by simp only []; omega, ⟨hmm, er'.mono (by push_cast; omega), rfl, by have e1 : ss2.length = ns2.length := hmm.n.len; show ss2.length = j; omega⟩, lw'⟩ (by simp only []; omega)
  obtain rfl : i = 0 := by omega
  try refine runS ?_
  exact D.rd (r + 1, (⟨ss, cl, [], gd, vn, vc', vm, vg, hw, hc, hl', hg, ns⟩ : WSt)) ⟨by simp only []; omega, rn.mono (by push_cast; omega), lw.next, fun r' e => by cases e; exact lw⟩ (by simp only []; omega)
 have hall := Liv.fin rn.er lv (by omega)
 have hstf : ∀ (i : Nat) m, top.all[i]? = some m → m ∈ top.ms → (cAt ss m).st = (head.length : Int) := fun i m hi hm => by
  obtain ⟨r', rfl⟩ : ∃ z, r = z + 1 := ⟨r - 1, by omega⟩
  exact (lw r' rfl).st (fun m hm => by rw [hall m hm]) i m (Nat.zero_le _) hi hm
 have hrs : Rs ns vn hw := rn.mm.n.rs
 have hnn : ns.length = j := rn.ns
 obtain ⟨pn2, kn2, rfl⟩ := hrs.len
 have hncl : (cl.length : Int) ≤ 1000 + 8 * (r : Int) := rn.er.w.ncl
 have hnw := newest_ct (cl := cl) b (.slice pn2 ns.length kn2) vc' vm vg rn.er.tp rn.mm.c.rs (by omega)
 have hll : (top.all.map (·.nd)).length = top.all.length := length_map ..
 repeat' (first | refine runS ?_ | refine WX.mul rfl rfl rfl (by omega) ?_ | fail)
 refine W.loop (α := Nat) (fun i => i ≤ top.all.length) (fun i => [(5, .pointer (some ⟨b, 0, none⟩)), (8, .slice pl (top.all.map (·.nd)).length kl), (9, .slice ph head.length kh), (13, .int .i64 (i : Int))])
  (fun _ => [WwBk b (.slice pn2 ns.length kn2) vc' vm vg, hw, hc, hl', hg, nhp ns, hh, hL, h0, R]) (fun i => top.all.length - i) 0 (Nat.zero_le _) (by repeat (first | exact Fsub.nil | refine Fsub.cons rfl ?_)) (Hsub.of_picks inferInstance) ?_
 intro i hi
 by_cases hlt : i < top.all.length
 ·obtain ⟨p, hp⟩ : ∃ q, top.all[i]? = some q := ⟨_, List.getElem?_eq_getElem hlt⟩
  obtain ⟨nI, hI, hIj⟩ := nod hp
  have hli : (top.all.map (·.nd))[i]? = some (nI : Int) := by rw [List.getElem?_map, hp, Option.map_some, hI]
  obtain ⟨m, hm, hms, hok, -, hc0, -, okc, hdu⟩ := rn.at (mem_of_getElem? hp) hI
  simp only [] at hm hms hc0
  have hnl : nI < ns.length := by omega
  have hlg : m.s.ch.lg = head := by rw [← hc0]; exact hall p (mem_of_getElem? hp)
  have hdl : m.s.ch.du = (head.length : Int) := by rw [hdu, ← hlg]; rfl
  obtain ⟨cb, d', w, v, hv, seg, tt, hd', rest, at_, hop⟩ := openX rn.mm hm
  simp only [WSt.hh] at hop
  have hfl := hop [hh, hL, h0, R]
  simp only [ca, na] at hfl
  have hlo := clog_ct m.s.ch cb at_.sl.rs (by rw [hlg]; omega)
  have hdc := cdur_ct m.s.ch cb v
  have hsc := cstab_ct m.s.ch cb v
  have hfu := fullO_ct (o := some top) (ChO.some okt) (nI : Int)
  have hfs : fullO (some top) (nI : Int) = true → m.s.ch.st = (head.length : Int) := fun h => by
   obtain ⟨m', m1, m2⟩ := fullC_some h
   obtain ⟨t', ht⟩ := mem_iff_getElem?.1 (show m' ∈ top.all from mem_append_left _ m1)
   have e := pw_ne okt.up ht hp (by rw [m2, hI])
   rw [e, hp] at ht; cases ht
   rw [← hc0]; exact hstf i p hp m1
  refine W.perm hfl ?_
  have back : ∀ {n L Q e}, D g Q e n L [WwBk b (.slice pn2 ns.length kn2) vc' vm vg, hw, hc, hl', hg, nhp ns, hh, hL, h0, R] → D g Q e n L [WwBk b (.slice pn2 ns.length kn2) vc' vm vg, hw, hc, hl', hg, LgBk m.b cb m.s.c0.dc m.s.c0.rg m.s.c0.nd d' w m.s.isUp, CsBk cb m.s.ch v, hv, WBk w d' seg tt, hd', rest, hh, hL, h0, R] := fun h => D.perm hfl.symm h
  try refine runS ?_
  refine W.quiet Tryz.mix (by kernel_rfl) ?_
  try refine runS ?_
  obtain ⟨fu, hff⟩ : ∃ fu, fullO (some top) (nI : Int) = fu := ⟨_, rfl⟩
  rw [hff] at hfu hfs
  cases fu with
  | false =>
   clear hfs
   refine W.mixT [true, true, true, true, false, true, false, true, true, true, true, true, true, false, true, true, true, true, true, true, false, true, true, true, true, false, true, true, true, true, true, false, true, true, true, true, true] [WwBk b (.slice pn2 ns.length kn2) vc' vm vg, hL, LgBk m.b cb m.s.c0.dc m.s.c0.rg m.s.c0.nd d' w m.s.isUp] Tryz.mix (by kernel_rfl) ?_
   try refine runS ?_
   refine WX.call rfl hlo rfl ?_
   rintro vL _ ⟨hL2, hsL, rfl⟩
   simp only [ca, na]
   rw [hlg] at hsL
   have hen := entries_ct hsL.rs hrh (by omega)
   repeat' (first | refine runS ?_ | refine WX.callQ rfl hen rfl ?_ | refine WX.callQ rfl hdc rfl ?_ | refine WX.callQ rfl hnw rfl ?_ | refine WX.callQ rfl hfu rfl ?_ | fail)
   refine D.sub (H' := [WwBk b (.slice pn2 ns.length kn2) vc' vm vg, hw, hc, hl', hg, LgBk m.b cb m.s.c0.dc m.s.c0.rg m.s.c0.nd d' w m.s.isUp, CsBk cb m.s.ch v, hv, WBk w d' seg tt, hd', rest, hh, hL, h0, R]) (Fsub.refl _) (Hsub.of_picks inferInstance) ?_
   refine back ?_
   exact D.rd (i + 1) (by omega) (by omega)
  | true =>
   have hfs := hfs rfl
   refine W.mixT [true, true, true, true, false, true, false, true, true, true, true, true, true, false, true, true, true, true, true, true, false, true, true, true, true, false, true, true, true, true, true, false, true, true, true, true, true] [WwBk b (.slice pn2 ns.length kn2) vc' vm vg, hL, LgBk m.b cb m.s.c0.dc m.s.c0.rg m.s.c0.nd d' w m.s.isUp] Tryz.mix (by kernel_rfl) ?_
   try refine runS ?_
   refine WX.call rfl hlo rfl ?_
   rintro vL _ ⟨hL2, hsL, rfl⟩
   simp only [ca, na]
   rw [hlg] at hsL
   have hen := entries_ct hsL.rs hrh (by omega)
   repeat' (first | refine runS ?_ | refine WX.callQ rfl hen rfl ?_ | refine WX.callQ rfl hdc rfl ?_ | refine WX.callQ rfl hnw rfl ?_ | refine WX.callQ rfl hfu rfl ?_ | refine WX.callQ rfl hsc rfl ?_ | fail)
   refine D.sub (H' := [WwBk b (.slice pn2 ns.length kn2) vc' vm vg, hw, hc, hl', hg, LgBk m.b cb m.s.c0.dc m.s.c0.rg m.s.c0.nd d' w m.s.isUp, CsBk cb m.s.ch v, hv, WBk w d' seg tt, hd', rest, hh, hL, h0, R]) (Fsub.refl _) (Hsub.of_picks inferInstance) ?_
   refine back ?_
   exact D.rd (i + 1) (by omega) (by omega)
 try refine runS ?_
 refine WX.call rfl (soundX_ct rn.ok h1 h4) rfl ?_
 rintro _ _ ⟨rfl, x2, rfl, ok2⟩
 simp only [WSt.hh, cons_append, nil_append]
 try refine runS ?_
 exact D.fin1 [h0] _ rfl rfl ⟨rfl, rfl⟩
end Go.Proofs.YtejfahjgfedliaaGreat
