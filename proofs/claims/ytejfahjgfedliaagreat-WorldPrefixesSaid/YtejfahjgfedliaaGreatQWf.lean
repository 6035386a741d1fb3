/-
  Texts of one road, one behind the other.
-/
import Derived.Test.YtejfahjgfedliaaGreatQWe
set_option linter.unusedVariables false
set_option linter.unusedSimpArgs false
namespace Go.Proofs.YtejfahjgfedliaaGreat
open Go Go.Sl List
theorem Adj.at {l : List Mem} {i : Nat} {p j : Mem} (h1 : l[i]? = some p) (h2 : l[i + 1]? = some j) : Adj l p j := by
 obtain ⟨a, rfl⟩ := List.getElem?_eq_some_iff.1 h1
 obtain ⟨b, rfl⟩ := List.getElem?_eq_some_iff.1 h2
 exact ⟨l.take i, l.drop (i + 1 + 1), by rw [← drop_eq_getElem_cons b, ← drop_eq_getElem_cons a, take_append_drop]⟩
theorem iplc_ge {xs : List Int} {k : Int} (h : 0 ≤ iplc xs k) : ∃ i : Nat, iplc xs k = (i : Int) ∧ xs[i]? = some k := by
 unfold iplc at h ⊢
 cases hf : xs.findIdx? (fun p => decide (p = k)) with
 | none => rw [hf] at h; simp only [] at h; omega
 | some i =>
  obtain ⟨hi, h1, -⟩ := List.findIdx?_eq_some_iff_getElem.1 hf
  exact ⟨i, rfl, by rw [List.getElem?_eq_getElem hi]; exact congrArg _ (of_decide_eq_true h1)⟩
theorem iplc_of {xs : List Int} {k : Int} {t : Nat} (h : xs[t]? = some k) : ∃ i : Nat, iplc xs k = (i : Int) ∧ i ≤ t := by
 obtain ⟨ht, hk⟩ := List.getElem?_eq_some_iff.1 h
 unfold iplc
 cases hf : xs.findIdx? (fun p => decide (p = k)) with
 | none =>
  rw [List.findIdx?_eq_none_iff] at hf
  have := hf k (mem_of_getElem? h)
  simp at this
 | some i =>
  obtain ⟨hi, h1, h2⟩ := List.findIdx?_eq_some_iff_getElem.1 hf
  refine ⟨i, rfl, Nat.le_of_not_lt fun hlt => ?_⟩
  have := h2 t hlt
  simp [hk] at this
theorem atL_some {xs : List Int} {i k : Int} (h : atL xs i = k) (hk : 0 ≤ k) : 0 ≤ i ∧ xs[i.toNat]? = some k := by
 unfold atL at h
 split at h
 ·omega
 ·rename_i hn
  simp only [not_or] at hn
  refine ⟨by omega, ?_⟩
  rw [getD_eq_getElem?_getD, List.getElem?_eq_getElem (by omega), Option.getD_some] at h
  rw [List.getElem?_eq_getElem (by omega), h]
section
variable {ch : Ch} {n k : Int}
theorem nd_at {i : Nat} (h : (nodesO (some ch))[i]? = some n) : ∃ m, ch.all[i]? = some m ∧ m.nd = n := by
 rw [show nodesO (some ch) = ch.all.map (·.nd) from rfl, List.getElem?_map] at h
 cases hm : ch.all[i]? with
 | none => rw [hm] at h; cases h
 | some m => rw [hm] at h; exact ⟨m, rfl, by simpa using h⟩
theorem last_of (ok : ChOk ch) (h0 : 0 ≤ n) (h : lastO (some ch) = n) : ∃ m, ch.ms.getLast? = some m ∧ m.nd = n := by
 have h1 := ok.l1
 obtain ⟨h2, h3⟩ := atL_some h h0
 rw [show ((cfO (some ch)).n - 1).toNat = ch.ms.length - 1 by show ((ch.ms.length : Int) - 1).toNat = _; omega] at h3
 obtain ⟨m, hm, hn⟩ := nd_at h3
 unfold Ch.all at hm
 rw [List.getElem?_append_left (by omega)] at hm
 exact ⟨m, by rw [List.getLast?_eq_getElem?]; exact hm, hn⟩
theorem head_of (h0 : 0 ≤ n) (h : headO (some ch) = n) : ∃ m, ch.all.head? = some m ∧ m.nd = n := by
 obtain ⟨h2, h3⟩ := atL_some h h0
 obtain ⟨m, hm, hn⟩ := nd_at h3
 exact ⟨m, by rw [List.head?_eq_getElem?]; exact hm, hn⟩
theorem behind_of (hk : 0 ≤ k) (h : behindO (some ch) n = k) : ∃ p j, Adj ch.all p j ∧ p.nd = n ∧ j.nd = k := by
 unfold behindO at h
 split at h
 ·omega
 ·obtain ⟨i, hi, hx⟩ := iplc_ge (xs := nodesO (some ch)) (k := n) (by omega)
  obtain ⟨-, h3⟩ := atL_some h hk
  rw [hi, show ((i : Int) + 1).toNat = i + 1 by omega] at h3
  obtain ⟨p, hp, hpn⟩ := nd_at hx
  obtain ⟨j, hj, hjn⟩ := nd_at h3
  exact ⟨p, j, .at hp hj, hpn, hjn⟩
theorem ahead_of (hk : 0 ≤ k) (h : aheadO (some ch) n = k) : ∃ p j, Adj ch.all p j ∧ p.nd = k ∧ j.nd = n := by
 unfold aheadO at h
 obtain ⟨h2, h3⟩ := atL_some h hk
 obtain ⟨i, hi, hx⟩ := iplc_ge (xs := nodesO (some ch)) (k := n) (by omega)
 rw [hi] at h2 h3
 obtain ⟨t, rfl⟩ : ∃ t, i = t + 1 := ⟨i - 1, by omega⟩
 rw [show (((t + 1 : Nat) : Int) - 1).toNat = t by omega] at h3
 obtain ⟨p, hp, hpn⟩ := nd_at h3
 obtain ⟨j, hj, hjn⟩ := nd_at hx
 exact ⟨p, j, .at hp hj, hpn, hjn⟩
theorem fullC_some (h : fullO (some ch) k = true) : ∃ m ∈ ch.ms, m.nd = k := by
 unfold fullO at h
 obtain ⟨h1, h2⟩ := of_decide_eq_true h
 obtain ⟨i, hi, hx⟩ := iplc_ge h1
 rw [hi, show (cfO (some ch)).n = (ch.ms.length : Int) from rfl] at h2
 obtain ⟨m, hm, hn⟩ := nd_at hx
 unfold Ch.all at hm
 rw [List.getElem?_append_left (by omega)] at hm
 exact ⟨m, mem_of_getElem? hm, hn⟩
theorem fullC_of {m : Mem} (h : m ∈ ch.ms) : fullO (some ch) m.nd = true := by
 obtain ⟨t, ht⟩ := mem_iff_getElem?.1 h
 have htl := (List.getElem?_eq_some_iff.1 ht).1
 have hx : (nodesO (some ch))[t]? = some m.nd := by
  rw [show nodesO (some ch) = ch.all.map (·.nd) from rfl, List.getElem?_map]
  unfold Ch.all
  rw [List.getElem?_append_left htl, ht]; rfl
 obtain ⟨i, hi, hle⟩ := iplc_of hx
 unfold fullO
 rw [decide_eq_true_iff, hi, show (cfO (some ch)).n = (ch.ms.length : Int) from rfl]
 omega
theorem not_full {m : Mem} (h : m ∈ ch.all) (hf : fullO (some ch) m.nd ≠ true) : ch.ln = some m := by
 unfold Ch.all at h
 rcases mem_append.1 h with h | h
 ·exact absurd (fullC_of h) hf
 ·simpa [Option.mem_toList, eq_comm] using h
theorem since_of (ok : ChOk ch) {m : Mem} (h : m ∈ ch.all) : sinceO (some ch) m.nd = m.sn := by
 unfold sinceO
 simp only []
 cases hf : ch.all.findIdx? (fun p => decide (p.nd = m.nd)) with
 | none =>
  rw [List.findIdx?_eq_none_iff] at hf
  have := hf m h
  simp at this
 | some i =>
  obtain ⟨hi, h1, -⟩ := List.findIdx?_eq_some_iff_getElem.1 hf
  obtain ⟨t, ht⟩ := mem_iff_getElem?.1 h
  have : i = t := pw_ne ok.up (List.getElem?_eq_getElem hi) ht (of_decide_eq_true h1)
  subst this
  simp only [getD_eq_getElem?_getD, ht, Option.getD_some]
theorem since_some (h : sinceO (some ch) n ≠ 0) : ∃ m ∈ ch.all, m.nd = n ∧ m.sn = sinceO (some ch) n := by
 unfold sinceO at h ⊢
 simp only [] at h ⊢
 cases hf : ch.all.findIdx? (fun p => decide (p.nd = n)) with
 | none => rw [hf] at h; exact absurd rfl h
 | some i =>
  obtain ⟨hi, h1, -⟩ := List.findIdx?_eq_some_iff_getElem.1 hf
  refine ⟨ch.all[i], getElem_mem hi, of_decide_eq_true h1, ?_⟩
  simp only [getD_eq_getElem?_getD, List.getElem?_eq_getElem hi, Option.getD_some]
theorem all_last {q : Mem} (h : ch.ln = some q) : ch.all.getLast? = some q := by unfold Ch.all; rw [h]; simp
theorem all_last' {z : Mem} (h : ch.ln = none) (hz : ch.ms.getLast? = some z) : ch.all.getLast? = some z := by unfold Ch.all; rw [h]; simpa using hz
theorem before_last {l : List Mem} {z k : Mem} (hz : l.getLast? = some z) (hk : k ∈ l) : k = z ∨ [k, z].Sublist l := by
 obtain ⟨l', rfl⟩ := List.getLast?_eq_some_iff.1 hz
 rcases mem_append.1 hk with h | h
 ·right
  rw [show [k, z] = [k] ++ [z] from rfl]
  exact (singleton_sublist.2 h).append (List.Sublist.refl _)
 ·left; simpa using h
end
section
variable {cs : List Ch} {tn : Tn} {vs : List CS} {ml : List Lt} {gd : List Ent} {top : Ch} (h : WI cs tn vs ml gd top) {i : Nat} {c : CS} (hi : vs[i]? = some c)
include h hi
theorem WI.at : NodI cs tn c ∧ TenI cs tn c.me c := ⟨h.cur c (mem_of_getElem? hi), h.ten _ c (h.cur c (mem_of_getElem? hi)).nt⟩
theorem WI.chain : ∃ ch ∈ cs, c.co = some ch ∧ ChOk ch ∧ c.ep = ch.ep := by
 obtain ⟨ch, h1, h2⟩ := (h.at hi).2.co
 exact ⟨ch, h1, h2, h.chs.ok ch h1, CS.ep_co h2⟩
theorem WI.tailPot {ch : Ch} (hc : ch ∈ cs) (hco : c.co = some ch) (hz : ch.all.getLast? = some c.me) : Pot cs tn c.ep (c.lg.take c.du.toNat) := by
 obtain ⟨n, t⟩ := h.at hi
 have hep := CS.ep_co hco
 have hl := tail h.chs h.grow hc (j := c.me) (fun k hk => before_last hz (mem_append_left _ hk)) (fun q hq => .inl (by have := all_last hq; rw [hz] at this; cases this; rfl)) (fun cj hcj => by rw [n.nt] at hcj; cases hcj; omega)
 have hself : ∀ E, c.ep ≤ E → hold tn c.me E (c.lg.take c.du.toNat) := fun E hE => by
  rw [hold.is n.nt]; unfold dur; rw [if_neg (by omega)]; exact prefix_rfl
 refine ⟨fun d hd hde k hk E h1 h2 => ?_, fun d hd hde q hq z hzz => ?_⟩
 ·rcases hl d hd (by omega) k hk with rfl | ⟨f, hf, hI⟩
  ·exact hself E h1
  ·exact (t.good k ch.ep f hI (by omega) E h1 (by omega)).sub (take_prefix _ _)
 ·have : d = ch := h.chs.un d hd ch hc (by omega)
  subst this
  have hql := all_last hq
  rw [hz] at hql; cases hql
  exact .inl (hself c.ep (Int.le_refl _))
theorem WI.settle : WI cs (upd tn c.me c.settle) (vs.set i c.settle) ml gd top := by
 obtain ⟨n, t⟩ := h.at hi
 obtain ⟨ch, hc, hco, okc, hep⟩ := h.chain hi
 obtain ⟨s1, s2, s3, s4, s5, s6, s7, s8, s9, s10⟩ := settle_same c
 have e4 : c.settle.ep = c.ep := by unfold CS.ep; rw [s4]
 have hme : c.settle.me = c.me := by unfold CS.me; rw [s3, s5]
 have hst : Pot cs tn c.ep (c.lg.take c.settle.st.toNat) ∧ 0 ≤ c.settle.st ∧ c.settle.st ≤ c.du := by
  have hb := t.ok.bs
  have h1 := n.st1
  unfold CS.settle
  split
  ·rename_i hl
   have hl2 := hl.2
   rw [hco] at hl2
   obtain ⟨m, hm, hmn⟩ := last_of okc hl.1 hl2
   have hmm := n.me ch hco m (mem_append_left _ (getLast_mem hm)) hmn
   subst hmm
   have hjo : (cfO c.co).jo = ch.ln.isSome := by rw [hco]; rfl
   split
   ·rename_i hj
    rw [hjo] at hj
    exact ⟨h.tailPot hi hc hco (all_last' (by simpa using hj) hm), by show 0 ≤ c.du; omega, Int.le_refl _⟩
   ·rename_i hj
    split
    ·refine ⟨?_, ?_⟩
     ·show Pot cs tn c.ep (c.lg.take (mx c.st c.bs).toNat)
      unfold mx
      split
      ·exact n.bs ch hco hm (by rw [← hjo]; simpa using hj)
      ·exact n.st
     ·show 0 ≤ mx c.st c.bs ∧ mx c.st c.bs ≤ c.du
      unfold mx; split <;> omega
    ·exact ⟨n.st, n.st1⟩
  ·exact ⟨n.st, n.st1⟩
 refine h.go hi s3 s5 (.same e4 s7 s6 s8) t.ok.settle ⟨ch, hc, by rw [s4, hco]⟩ (by omega) (by rw [e4, s7]; exact t.good) fun hh hu => ?_
 refine ⟨by rw [hme]; exact hu, fun d hd q hq => ?_, ?_, fun d hd hl hj => ?_, fun d hd m hm hmn => ?_, ?_, ?_, by rw [s8, s10]; exact n.ow1⟩
 ·rw [hme] at hq; rw [s4] at hd; rw [s7, s9]; exact hh _ _ _ (n.ak d hd q hq)
 ·rw [e4, s7]; exact hst.1.map hh
 ·rw [s4] at hd; rw [hme] at hl; rw [e4, s7, s6]; exact (n.bs d hd hl hj).map hh
 ·rw [s4] at hd; rw [s3] at hmn; rw [hme]; exact n.me d hd m hm hmn
 ·rw [s8]; exact hst.2
 ·rw [s8, s9]; exact n.ak1
theorem WI.sync0 : WI cs (upd tn c.me { c with du := c.len }) (vs.set i { c with du := c.len }) ml gd top := by
 obtain ⟨n, t⟩ := h.at hi
 obtain ⟨ch, hc, hco, okc, hep⟩ := h.chain hi
 have ok := t.ok
 have hd := ok.du
 have hb := ok.bs
 have hl0 : (0 : Int) ≤ c.len := Int.natCast_nonneg _
 have ok' : CsOk { c with du := c.len } := ⟨ok.co, ⟨hb.1, by show c.bs ≤ c.len; omega⟩, ⟨hl0, Int.le_refl _⟩, ok.len, ok.es⟩
 refine h.go hi rfl rfl (.of ok ok' (Int.le_refl _) (fun _ => prefix_rfl) (tk_le (show c.du.toNat ≤ c.len.toNat by omega)) fun e => absurd e (Int.lt_irrefl _)) ok' ⟨ch, hc, hco⟩ (Int.le_refl _) t.good fun hh hu => ?_
 exact ⟨hu, fun d hd q hq => hh _ _ _ (n.ak d hd q hq), n.st.map hh, fun d hd hl hj => (n.bs d hd hl hj).map hh, n.me, ⟨n.st1.1, by have := n.st1.2; show c.st ≤ c.len; omega⟩, ⟨n.ak1.1, by have := n.ak1.2; show c.ak ≤ c.len; omega⟩, by have := n.ow1; show c.ow ≤ c.len; omega⟩
theorem WI.push {e : Ent} (he : EntR e) (hl : c.lg.length < 256) (T : Good cs tn c.me c.ep (c.lg ++ [e])) : WI cs (upd tn c.me (c.push e)) (vs.set i (c.push e)) ml gd top := by
 obtain ⟨n, t⟩ := h.at hi
 obtain ⟨ch, hc, hco, okc, hep⟩ := h.chain hi
 have ok := t.ok
 have hd := ok.du
 have hb := ok.bs
 have hlen : c.len = (c.lg.length : Int) := rfl
 have hs := n.st1
 have ha := n.ak1
 have hx : ∀ k : Nat, k ≤ c.lg.length → (c.push e).lg.take k = c.lg.take k := fun k hk => tk_app hk
 refine h.go hi rfl rfl (.of ok (ok.push hl he) (Int.le_refl _) (fun _ => ?_) ?_ fun e => absurd e (Int.lt_irrefl _)) (ok.push hl he) ⟨ch, hc, hco⟩ (Int.le_refl _) T fun hh hu => ?_
 ·show _ <+: (c.push e).lg.take c.bs.toNat
  rw [hx _ (by omega)]; exact prefix_rfl
 ·show _ <+: (c.push e).lg.take c.du.toNat
  rw [hx _ (by omega)]; exact prefix_rfl
 ·refine ⟨hu, fun d hd q hq => ?_, ?_, fun d hd hl hj => ?_, n.me, hs, ha, n.ow1⟩
  ·show hold _ q d.ep ((c.push e).lg.take c.ak.toNat)
   rw [hx _ (by omega)]; exact hh _ _ _ (n.ak d hd q hq)
  ·show Pot cs _ c.ep ((c.push e).lg.take c.st.toNat)
   rw [hx _ (by omega)]; exact n.st.map hh
  ·show Pot cs _ c.ep ((c.push e).lg.take c.bs.toNat)
   rw [hx _ (by omega)]; exact (n.bs d hd hl hj).map hh
theorem WI.acks {c' : CS} (e1 : c'.nd = c.nd) (e2 : c'.sn = c.sn) (e3 : c'.co = c.co) (e4 : c'.bs = c.bs) (e5 : c'.lg = c.lg) (e6 : c'.du = c.du) (e7 : c'.ow = c.ow)
  (K : ∀ ch, c.co = some ch → ∀ q, Adj ch.all c.me q → hold tn q ch.ep (c.lg.take c'.ak.toNat)) (S : Pot cs tn c.ep (c.lg.take c'.st.toNat)) (s1 : 0 ≤ c'.st ∧ c'.st ≤ c.du) (s2 : 0 ≤ c'.ak ∧ c'.ak ≤ c.du) :
  WI cs (upd tn c.me c') (vs.set i c') ml gd top := by
 obtain ⟨n, t⟩ := h.at hi
 obtain ⟨ch, hc, hco, okc, hep⟩ := h.chain hi
 have ok := t.ok
 have hme : c'.me = c.me := by unfold CS.me; rw [e1, e2]
 have hee : c'.ep = c.ep := by unfold CS.ep; rw [e3]
 have hl : c'.len = c.len := by unfold CS.len; rw [e5]
 have ok' : CsOk c' := ⟨by rw [e3]; exact ok.co, by rw [e4, e6]; exact ok.bs, by rw [e6, hl]; exact ok.du, by rw [e5]; exact ok.len, by rw [e5]; exact ok.es⟩
 refine h.go hi e1 e2 (.same hee e5 e4 e6) ok' ⟨ch, hc, by rw [e3, hco]⟩ (by omega) (by rw [hee, e5]; exact t.good) fun hh hu => ?_
 refine ⟨by rw [hme]; exact hu, fun d hd q hq => ?_, by rw [hee, e5]; exact S.map hh, fun d hd hl hj => ?_, fun d hd m hm hmn => ?_, by rw [e6]; exact s1, by rw [e6]; exact s2, by rw [e6, e7]; exact n.ow1⟩
 ·rw [hme] at hq; rw [e3] at hd; rw [e5]; exact hh _ _ _ (K d hd q hq)
 ·rw [e3] at hd; rw [hme] at hl; rw [hee, e5, e4]; exact (n.bs d hd hl hj).map hh
 ·rw [e3] at hd; rw [e1] at hmn; rw [hme]; exact n.me d hd m hm hmn
theorem WI.crash0 {m : Nat} (hm1 : c.du.toNat ≤ m) (hm2 : m ≤ c.lg.length) : WI cs (upd tn c.me { c with lg := c.lg.take m, du := (m : Int), st := 0, ak := 0, ow := (m : Int), su := false }) (vs.set i { c with lg := c.lg.take m, du := (m : Int), st := 0, ak := 0, ow := (m : Int), su := false }) ml gd top := by
 obtain ⟨n, t⟩ := h.at hi
 obtain ⟨ch, hc, hco, okc, hep⟩ := h.chain hi
 have ok := t.ok
 have hd := ok.du
 have hb := ok.bs
 have hlen : c.len = (c.lg.length : Int) := rfl
 have hml : (c.lg.take m).length = m := by rw [length_take]; omega
 have htk : ∀ k : Nat, k ≤ m → (c.lg.take m).take k = c.lg.take k := fun k hk => by rw [take_take, Nat.min_eq_left hk]
 obtain ⟨c', hc'⟩ : ∃ c' : CS, c' = { c with lg := c.lg.take m, du := (m : Int), st := 0, ak := 0, ow := (m : Int), su := false } := ⟨_, rfl⟩
 rw [← hc']
 have f1 : c'.nd = c.nd := by rw [hc']
 have f2 : c'.sn = c.sn := by rw [hc']
 have f3 : c'.co = c.co := by rw [hc']
 have f4 : c'.bs = c.bs := by rw [hc']
 have f5 : c'.lg = c.lg.take m := by rw [hc']
 have f6 : c'.du = (m : Int) := by rw [hc']
 have f7 : c'.st = 0 := by rw [hc']
 have f8 : c'.ak = 0 := by rw [hc']
 have f9 : c'.ow = (m : Int) := by rw [hc']
 have hme : c'.me = c.me := by unfold CS.me; rw [f1, f2]
 have hee : c'.ep = c.ep := by unfold CS.ep; rw [f3]
 have ok' : CsOk c' := ⟨by rw [f3]; exact ok.co, by rw [f4, f6]; omega, by rw [f6]; unfold CS.len; rw [f5, hml]; omega, by rw [f5, hml]; have := ok.len; omega, by rw [f5]; exact fun e he => ok.es e (mem_of_mem_take he)⟩
 refine h.go hi f1 f2 (.of ok ok' (by omega) (fun _ => ?_) ?_ fun e => absurd e (by omega)) ok' ⟨ch, hc, by rw [f3, hco]⟩ (by omega) (by rw [hee, f5]; exact t.good.sub (take_prefix _ _)) fun hh hu => ?_
 ·rw [f5, f4, htk _ (by omega)]; exact prefix_rfl
 ·rw [f5, f6, htk _ (by omega)]; exact tk_le (by omega)
 ·refine ⟨by rw [hme]; exact hu, fun d hd q hq => by rw [f8]; exact hold.nil, by rw [f7]; exact Pot.nil, fun d hd hl hj => ?_, fun d hd m' hm hmn => ?_, by rw [f7, f6]; omega, by rw [f8, f6]; omega, by rw [f9, f6]; exact Int.le_refl _⟩
  ·rw [f3] at hd; rw [hme] at hl; rw [hee, f5, f4, htk _ (by omega)]; exact (n.bs d hd hl hj).map hh
  ·rw [f3] at hd; rw [f1] at hmn; rw [hme]; exact n.me d hd m' hm hmn
theorem WI.enter0 {ch : Ch} (hc : ch ∈ cs) (hep : c.ep < ch.ep) (hr : sinceO (some ch) c.nd = 0 ∨ sinceO (some ch) c.nd = c.sn) :
  WI cs (upd tn c.me ⟨c.dc, c.rg, c.nd, some ch, c.sn, c.len, c.lg, c.len, c.st, 0, 0, true⟩) (vs.set i ⟨c.dc, c.rg, c.nd, some ch, c.sn, c.len, c.lg, c.len, c.st, 0, 0, true⟩) ml gd top := by
 obtain ⟨n, t⟩ := h.at hi
 have ok := t.ok
 have hd := ok.du
 have hb := ok.bs
 have hlen : c.len = (c.lg.length : Int) := rfl
 have hlt : c.lg.take c.len.toNat = c.lg := take_of_length_le (by omega)
 have okh := h.chs.ok ch hc
 obtain ⟨c', hc'⟩ : ∃ c' : CS, c' = ⟨c.dc, c.rg, c.nd, some ch, c.sn, c.len, c.lg, c.len, c.st, 0, 0, true⟩ := ⟨_, rfl⟩
 rw [← hc']
 have f1 : c'.nd = c.nd := by rw [hc']
 have f2 : c'.sn = c.sn := by rw [hc']
 have f3 : c'.co = some ch := by rw [hc']
 have f4 : c'.bs = c.len := by rw [hc']
 have f5 : c'.lg = c.lg := by rw [hc']
 have f6 : c'.du = c.len := by rw [hc']
 have f7 : c'.st = c.st := by rw [hc']
 have f8 : c'.ak = 0 := by rw [hc']
 have f9 : c'.ow = 0 := by rw [hc']
 have hme : c'.me = c.me := by unfold CS.me; rw [f1, f2]
 have hee : c'.ep = ch.ep := CS.ep_co f3
 have ok' : CsOk c' := ⟨by rw [f3]; exact ChO.some okh, by rw [f4, f6]; omega, by rw [f6]; unfold CS.len; rw [f5]; omega, by rw [f5]; exact ok.len, by rw [f5]; exact ok.es⟩
 have hs := n.st1
 refine h.go hi f1 f2 (.of ok ok' (by omega) (fun e => absurd e (by omega)) ?_ fun _ => ?_) ok' ⟨ch, hc, f3⟩ (by omega) (by rw [f5]; exact t.good.later (by omega)) fun hh hu => ?_
 ·rw [f5, f6, hlt]; exact take_prefix _ _
 ·rw [f5, f4, hlt]; exact take_prefix _ _
 ·refine ⟨by rw [hme]; exact hu, fun d hd q hq => by rw [f8]; exact hold.nil, by rw [f5, f7, hee]; exact (n.st.later (by omega)).map hh, fun d hd hl hj => ?_, fun d hd m' hm hmn => ?_, by rw [f7, f6]; omega, by rw [f8, f6]; omega, by rw [f9, f6]; omega⟩
  ·rw [f3] at hd; cases hd
   rw [hme] at hl
   rw [hee, f5, f4, hlt]
   have hdur : ∀ E, hold (upd tn c.me c') c.me E c.lg := fun E => by
    rw [hold.is hu]; unfold dur
    split
    ·rw [f5, f4, hlt]; exact prefix_rfl
    ·rw [f5, f6, hlt]; exact prefix_rfl
   have htl := tail h.chs h.grow hc (j := c.me) (fun k hk => (before_last hl hk).imp id fun h => h.trans (sublist_append_left _ _)) (fun q hq => .inr ⟨hl, fun cj hcj => by rw [n.nt] at hcj; cases hcj; exact hep⟩) (fun cj hcj => by rw [n.nt] at hcj; cases hcj; omega)
   refine ⟨fun d hd hde k hk E h1 h2 => ?_, fun d hd hde q hq z hz => ?_⟩
   ·rcases htl d hd (by omega) k hk with rfl | ⟨f, hf, hI⟩
    ·exact hdur E
    ·exact hh _ _ _ (t.good k ch.ep f hI (by omega) E (by omega) (by omega))
   ·have : d = ch := h.chs.un d hd ch hc (by omega)
    subst this
    rw [hl] at hz; cases hz
    exact .inr (hdur _)
  ·rw [f3] at hd; cases hd
   rw [f1] at hmn
   have hsn := since_of okh hm
   have hrg := (okh.rg m' hm).2.2.1
   rw [hmn] at hsn
   rw [hme]
   obtain ⟨a, b⟩ := m'
   simp only [] at hmn hsn hrg
   unfold CS.me
   subst hmn
   rcases hr with hr | hr
   ·omega
   ·rw [← hsn, hr]
theorem WI.fresh {ch : Ch} (hc : ch ∈ cs) (hep : c.ep < ch.ep) (h0 : sinceO (some ch) c.nd ≠ 0) (hr : sinceO (some ch) c.nd ≠ c.sn) :
  ∃ tn', WI cs tn' (vs.set i ⟨c.dc, c.rg, c.nd, some ch, sinceO (some ch) c.nd, 0, [], 0, 0, 0, 0, true⟩) ml gd top := by
 obtain ⟨n, t⟩ := h.at hi
 have okh := h.chs.ok ch hc
 obtain ⟨m, hm, hmn, hms⟩ := since_some h0
 obtain ⟨c', hc'⟩ : ∃ c' : CS, c' = ⟨c.dc, c.rg, c.nd, some ch, sinceO (some ch) c.nd, 0, [], 0, 0, 0, 0, true⟩ := ⟨_, rfl⟩
 rw [← hc']
 have f1 : c'.nd = c.nd := by rw [hc']
 have f2 : c'.sn = m.sn := by rw [hc', hms]
 have f3 : c'.co = some ch := by rw [hc']
 have f5 : c'.lg = [] := by rw [hc']
 have f4 : c'.bs = 0 := by rw [hc']
 have f6 : c'.du = 0 := by rw [hc']
 have f7 : c'.st = 0 := by rw [hc']
 have f8 : c'.ak = 0 := by rw [hc']
 have f9 : c'.ow = 0 := by rw [hc']
 have hme : c'.me = m := by unfold CS.me; rw [f1, f2, ← hmn]
 have hee : c'.ep = ch.ep := CS.ep_co f3
 have hgt : c.sn < m.sn := by
  refine Classical.byContradiction fun hn => ?_
  obtain ⟨d, hd, hdm, hde⟩ := t.mem
  have h1 := (h.chs.ok d hd).rg _ hdm
  have h2 : m ∈ d.all := h.chs.mem_back hd hc (by omega) hm (by have : c.me.sn = c.sn := rfl; omega)
  have := h.chs.one hd h2 hdm (by rw [hmn]; rfl)
  have : m.sn = c.sn := by rw [this]; rfl
  omega
 have hno : tn m = none := by
  cases hk : tn m with
  | none => rfl
  | some d =>
   obtain ⟨v, hv, h1, h2⟩ := h.dom m d hk
   obtain ⟨j, hj⟩ := mem_iff_getElem?.1 hv
   have : i = j := pw_ne h.dis hi hj (by rw [h1, hmn])
   subst this
   rw [hi] at hj; cases hj
   omega
 have ok' : CsOk c' := ⟨by rw [f3]; exact ChO.some okh, by rw [f4, f6]; omega, by rw [f6]; unfold CS.len; rw [f5]; exact ⟨Int.le_refl _, Int.le_refl _⟩, by rw [f5]; exact Nat.zero_le _, by rw [f5]; exact fun e he => nomatch he⟩
 refine ⟨_, h.put hi f1 (by omega) (fun d hd => by rw [hme, hno] at hd; cases hd) ok' ⟨ch, hc, f3⟩ ⟨ch, hc, by rw [hme]; exact hm, by omega⟩ (by rw [f5]; exact Good.nil) fun hh => ?_⟩
 refine ⟨upd_self .., fun d hd q hq => by rw [f8]; exact hold.nil, by rw [f7]; exact Pot.nil, fun d hd hl hj => by rw [f4]; exact Pot.nil, fun d hd m' hm' hmn' => ?_, by rw [f7, f6]; omega, by rw [f8, f6]; omega, by rw [f9, f6]; omega⟩
 rw [f3] at hd; cases hd
 rw [hme]
 exact h.chs.one hc hm' hm (by rw [hmn', f1, hmn])
end
theorem Adj.mem1 {l : List Mem} {x y : Mem} (h : Adj l x y) : x ∈ l := h.sub.subset (by simp)
theorem Adj.mem2 {l : List Mem} {x y : Mem} (h : Adj l x y) : y ∈ l := h.sub.subset (by simp)
theorem Adj.uniq {l : List Mem} (hn : (l.map (·.nd)).Pairwise (· ≠ ·)) {x y y' : Mem} (h : Adj l x y) (h' : Adj l x y') : y = y' := by
 obtain ⟨a, b, rfl⟩ := h
 obtain ⟨a', b', e⟩ := h'
 have hi : (a ++ x :: y :: b)[a.length]? = some x := by simp
 have hi' : (a ++ x :: y :: b)[a'.length]? = some x := by rw [e]; simp
 have hj : (a ++ x :: y :: b)[a.length + 1]? = some y := by simp
 have hj' : (a ++ x :: y :: b)[a'.length + 1]? = some y' := by rw [e]; simp
 have : a.length = a'.length := pw_ne hn hi hi' rfl
 rw [← this, hj] at hj'
 cases hj'; rfl
theorem Adj.snoc {l : List Mem} {z q : Mem} (hn : (l ++ [q]).Nodup) (h : Adj (l ++ [q]) z q) : l.getLast? = some z := by
 obtain ⟨a, b, e⟩ := h
 rcases eq_nil_or_concat b with rfl | ⟨b', w, rfl⟩
 ·have : l ++ [q] = (a ++ [z]) ++ [q] := by rw [e]; simp
  have := append_cancel_right this
  rw [this]; simp
 ·exfalso
  have h1 : l ++ [q] = (a ++ z :: q :: b') ++ [w] := by rw [e]; simp
  obtain ⟨h2, h3⟩ := append_inj' h1 rfl
  have hw : w = q := by simpa using h3.symm
  rw [h2] at hn
  rw [nodup_append] at hn
  exact hn.2.2 q (by simp) q (by simp) rfl
theorem wi_then {cs : List Ch} {vs : List CS} {ml : List Lt} {gd : List Ent} {top : Ch} {i : Nat} {c : CS} (hi : vs[i]? = some c) {c1 : CS} (h1 : ∃ tn', WI cs tn' (vs.set i c1) ml gd top) : ∃ tn', WI cs tn' (vs.set i c1.settle) ml gd top := by
 obtain ⟨tn', h1⟩ := h1
 have hil : i < vs.length := (List.getElem?_eq_some_iff.1 hi).1
 have := h1.settle (i := i) (c := c1) (by rw [List.getElem?_set, if_pos rfl, if_pos hil])
 rw [set_set] at this
 exact ⟨_, this⟩
section
variable {cs : List Ch} {tn : Tn} {vs : List CS} {ml : List Lt} {gd : List Ent} {top : Ch} (h : WI cs tn vs ml gd top) {i : Nat} {c : CS} (hi : vs[i]? = some c)
include h hi
theorem WI.noop : ∃ tn', WI cs tn' (vs.set i c) ml gd top := by
 have hil : i < vs.length := (List.getElem?_eq_some_iff.1 hi).1
 have : vs.set i c = vs := by rw [← (List.getElem?_eq_some_iff.1 hi).2]; exact set_getElem_self _
 rw [this]; exact ⟨tn, h⟩
theorem WI.sync : ∃ tn', WI cs tn' (vs.set i c.sync) ml gd top := wi_then hi ⟨_, h.sync0 hi⟩
theorem WI.head {e : Ent} (hh : c.head) (he : EntR e) (hl : c.lg.length < 256) : ∃ tn', WI cs tn' (vs.set i (c.push e).settle) ml gd top := by
 obtain ⟨n, t⟩ := h.at hi
 obtain ⟨ch, hc, hco, okc, hep⟩ := h.chain hi
 refine wi_then hi ⟨_, h.push hi he hl fun k e' f hI hle E h1 h2 => ?_⟩
 exfalso
 have hh2 := hh.2
 rw [hco] at hh2
 obtain ⟨m, hm, hmn⟩ := head_of hh.1 hh2
 have hma : m ∈ ch.all := mem_of_head? hm
 have hme := n.me ch hco m hma hmn
 subst hme
 exact hI.not_head h.chs hc (by omega) (okc.rg _ hma).2.2.2 hm
theorem WI.putS (key val : ByteArray) (dead : Bool) (deps : V9) (clock cl op : Int) : ∃ tn', WI cs tn' (vs.set i (c.putS key val dead deps clock cl op).2) ml gd top := by
 unfold CS.putS
 split
 ·exact h.noop hi
 split
 ·exact h.noop hi
 split
 ·exact h.noop hi
 split
 ·exact h.noop hi
 split
 ·exact h.noop hi
 ·rename_i h1 _ _ h4 h5
  refine h.head hi (Decidable.not_not.1 h1) (Decidable.not_not.1 h5) ?_
  have hlen : c.len = (c.lg.length : Int) := rfl
  omega
theorem WI.takeL {l : Lt} (hl : l ∈ ml) (hf : l.fw = true) (hto : l.to = c.nd) : ∃ tn', WI cs tn' (vs.set i (c.take l.fr l.ep l.ix l.en).2) ml gd top := by
 unfold CS.take
 split
 ·rename_i hk
  obtain ⟨k1, -, -, k4, k5, k6⟩ := hk
  obtain ⟨n, t⟩ := h.at hi
  obtain ⟨ch, hc, hco, okc, hep⟩ := h.chain hi
  have hlen : c.len = (c.lg.length : Int) := rfl
  refine wi_then hi ⟨_, h.push hi k5 (by omega) ?_⟩
  have hL := h.ml l hl
  unfold LtI at hL
  rw [if_pos hf] at hL
  obtain ⟨ch', hc', p, j, P, g1, g2, g3, g4, g5, g6, g7⟩ := hL
  have : ch' = ch := h.chs.un ch' hc' ch hc (by rw [g1, k1]; exact hep)
  subst this
  have hj := n.me ch' hco j g2.mem2 (by rw [g4, hto])
  subst hj
  intro k e' f hI hle E h1 h2
  have a1 := t.good k e' f hI hle E h1 h2
  have k1' : l.ep = c.ep := k1
  have a2 := g7 k e' f hI (by omega) E (by omega) h2
  have : c.lg = P := by
   have hlp : c.lg.length = P.length := by omega
   rcases a1.comp h.okTn a2 with h3 | h3
   ·have h4 : c.lg <+: P := by
     have := prefix_of_prefix_length_le h3 (prefix_append P [l.en]) (by omega)
     exact this
    exact h4.eq_of_length hlp
   ·have := h3.length_le
    simp only [length_append, length_cons, length_nil] at this
    omega
  rw [this]; exact a2
 ·exact h.noop hi
theorem WI.heardL {l : Lt} (hl : l ∈ ml) (hf : l.fw = false) (hto : l.to = c.nd) : ∃ tn', WI cs tn' (vs.set i (c.heard l.fr l.ep l.du l.st).2) ml gd top := by
 unfold CS.heard
 split
 ·rename_i hk
  obtain ⟨k1, -, -⟩ := hk
  obtain ⟨n, t⟩ := h.at hi
  obtain ⟨ch, hc, hco, okc, hep⟩ := h.chain hi
  have hL := h.ml l hl
  unfold LtI at hL
  rw [if_neg (by simp [hf])] at hL
  obtain ⟨ch', hc', z, q, L, g1, g2, g3, g4, g5, g6, g7, g8, g9, g10⟩ := hL
  have : ch' = ch := h.chs.un ch' hc' ch hc (by rw [g1, k1]; exact hep)
  subst this
  have hz := n.me ch' hco z g2.mem1 (by rw [g3, hto])
  subst hz
  have k1' : l.ep = c.ep := k1
  have hLz : L <+: c.lg.take c.du.toNat := by
   have := g7 c.me ch'.ep 0 (.here hc' g2.sub) (by omega) c.ep (by omega) (by have := okc.e1; omega)
   rw [hold.is n.nt] at this
   unfold dur at this
   rw [if_neg (by omega)] at this
   exact this
  have hLp : L <+: c.lg := hLz.trans (take_prefix _ _)
  have hpt : ∀ k : Nat, k ≤ L.length → c.lg.take k = L.take k := fun k hk => pre_tk hLp hk
  have hsub : ∀ d m : Int, 0 ≤ m → m ≤ (L.length : Int) → d ≤ m → c.lg.take d.toNat <+: L.take m.toNat := fun d m h0 h1 h2 => by
   rw [hpt _ (by omega)]; exact tk_le (by omega)
  have hs1 := n.st1
  have ha1 := n.ak1
  have hb1 := t.ok.bs
  have hd1 : mn l.du c.du ≤ l.du ∧ mn l.du c.du ≤ c.du ∧ 0 ≤ mn l.du c.du := by unfold mn; split <;> omega
  have hd2 : mn l.st c.du ≤ l.st ∧ mn l.st c.du ≤ c.du ∧ 0 ≤ mn l.st c.du := by unfold mn; split <;> omega
  have tmx : ∀ {R : List Ent → Prop} (a b : Int), R (c.lg.take a.toNat) → R (c.lg.take b.toNat) → R (c.lg.take (mx a b).toNat) := fun a b ha hb => by unfold mx; split <;> assumption
  have bmx : ∀ a b : Int, 0 ≤ a ∧ a ≤ c.du → 0 ≤ b ∧ b ≤ c.du → 0 ≤ mx a b ∧ mx a b ≤ c.du := fun a b ha hb => by unfold mx; split <;> assumption
  have hK : ∀ ch, c.co = some ch → ∀ q', Adj ch.all c.me q' → hold tn q' ch.ep (c.lg.take (mx c.ak (mn l.du c.du)).toNat) := by
   intro d hd q' hq
   rw [hco] at hd; cases hd
   have : q' = q := hq.uniq okc.up g2
   subst this
   exact tmx (R := fun X => hold tn q' ch'.ep X) _ _ (n.ak ch' hco q' hq) (by rw [g1]; exact g8.sub (hsub _ _ g5.1 g5.2 hd1.1))
  have hbk := bmx c.ak (mn l.du c.du) ha1 ⟨hd1.2.2, hd1.2.1⟩
  refine wi_then hi ?_
  unfold CS.heard0
  split
  ·refine ⟨_, h.acks hi rfl rfl rfl rfl rfl rfl rfl hK ?_ (bmx c.st _ hs1 ⟨hd2.2.2, hd2.2.1⟩) hbk⟩
   exact tmx (R := fun X => Pot cs tn c.ep X) _ _ n.st (by rw [← k1']; exact g9.sub (hsub _ _ g6.1 g6.2 hd2.1))
  ·rename_i hfu
   rw [hco, ← g4] at hfu
   have hq := not_full g2.mem2 hfu
   have hlast := all_last hq
   have hms : ch'.ms.getLast? = some c.me := by
    have hn := okc.nodup
    have ha : ch'.all = ch'.ms ++ [q] := by unfold Ch.all; rw [hq]; rfl
    rw [ha] at hn g2
    exact g2.snoc hn
   split
   ·refine ⟨_, h.acks hi rfl rfl rfl rfl rfl rfl rfl hK ?_ (bmx _ _ (bmx c.st c.bs hs1 (by omega)) ⟨hd1.2.2, hd1.2.1⟩) hbk⟩
    refine tmx (R := fun X => Pot cs tn c.ep X) _ _ (tmx (R := fun X => Pot cs tn c.ep X) _ _ n.st (n.bs ch' hco hms (by rw [hq]; rfl))) ?_
    rw [← k1']; exact (g10 hlast).sub (hsub _ _ g5.1 g5.2 hd1.1)
   ·exact ⟨_, h.acks hi rfl rfl rfl rfl rfl rfl rfl hK n.st hs1 hbk⟩
 ·exact h.noop hi
theorem WI.enter {ch : Ch} (hc : ch ∈ cs) : ∃ tn', WI cs tn' (vs.set i (c.enter ch.cfg).2) ml gd top := by
 have okh := h.chs.ok ch hc
 have hcf : chOf ch.cfg = ch := chOf_cfg (by have := okh.l4; omega)
 unfold CS.enter
 split
 ·exact h.noop hi
 split
 ·exact h.noop hi
 ·rename_i hr hep
  have hep : c.ep < ch.ep := Int.not_le.1 hep
  refine wi_then hi ?_
  unfold CS.enter0
  rw [hcf]
  split
  ·rename_i hs; exact h.fresh hi hc hep hs.1 hs.2
  ·rename_i hs
   exact ⟨_, h.enter0 hi hc hep (by rw [Decidable.not_and_iff_or_not] at hs; simpa using hs)⟩
theorem WI.again {m : Nat} (hm1 : c.du.toNat ≤ m) (hm2 : m ≤ c.lg.length) : ∃ tn', WI cs tn' (vs.set i (CS.restore c.dc c.rg c.nd (cfO c.co) c.sn c.bs (c.lg.take m))) ml gd top := by
 obtain ⟨n, t⟩ := h.at hi
 obtain ⟨ch, hc, hco, okc, hep⟩ := h.chain hi
 have hb := t.ok.bs
 have hd := t.ok.du
 have e : CS.restore0 c.dc c.rg c.nd (cfO c.co) c.sn c.bs (c.lg.take m) = { c with lg := c.lg.take m, du := (m : Int), st := 0, ak := 0, ow := (m : Int), su := false } := by
  have hl : (c.lg.take m).length = m := by rw [length_take]; omega
  have hr : (if RightC (cfO c.co) then some (chOf (cfO c.co)) else none) = c.co := by
   rw [hco, show cfO (some ch) = ch.cfg from rfl, if_pos (rightC_of okc), chOf_cfg (by have := okc.l4; omega)]
  have hbs : mx 0 (mn c.bs (m : Int)) = c.bs := by unfold mx mn; split <;> split <;> omega
  unfold CS.restore0
  rw [hl, hr, hbs]
 unfold CS.restore
 rw [e]
 exact wi_then hi ⟨_, h.crash0 hi hm1 hm2⟩
theorem WI.tellL (ha : 0 ≤ aheadO c.co c.nd) : LtI cs tn ⟨c.nd, aheadO c.co c.nd, c.ep, 0, false, Ent.z, c.du, c.st⟩ := by
 obtain ⟨n, t⟩ := h.at hi
 obtain ⟨ch, hc, hco, okc, hep⟩ := h.chain hi
 rw [hco] at ha ⊢
 obtain ⟨z, q, hA, hz, hq⟩ := ahead_of ha rfl
 have hqm := n.me ch hco q hA.mem2 hq
 subst hqm
 have hd := t.ok.du
 have hs := n.st1
 have hlen : c.len = (c.lg.length : Int) := rfl
 refine ⟨ch, hc, z, c.me, c.lg, hep.symm, hA, hz, rfl, ⟨hd.1, hd.2⟩, ⟨hs.1, by show c.st ≤ _; omega⟩, t.good, ?_, n.st, fun hl => h.tailPot hi hc hco hl⟩
 rw [hold.is n.nt]; unfold dur
 rw [if_neg (Int.lt_irrefl _)]; exact prefix_rfl
theorem WI.sendL {x : Nat} {e : Ent} (hb : 0 ≤ behindO c.co c.nd) (hx : (x : Int) < c.du) (he : c.lg[x]? = some e) (du st : Int) : LtI cs tn ⟨c.nd, behindO c.co c.nd, c.ep, (x : Int) + 1, true, e, du, st⟩ := by
 obtain ⟨n, t⟩ := h.at hi
 obtain ⟨ch, hc, hco, okc, hep⟩ := h.chain hi
 rw [hco] at hb ⊢
 obtain ⟨p, j, hA, hp, hj⟩ := behind_of hb rfl
 have hpm := n.me ch hco p hA.mem1 hp
 subst hpm
 have hxl := (List.getElem?_eq_some_iff.1 he).1
 have htk : c.lg.take x ++ [e] = c.lg.take (x + 1) := by rw [take_add_one, he]; rfl
 refine ⟨ch, hc, c.me, j, c.lg.take x, hep.symm, hA, rfl, hj, by show (x : Int) + 1 = _; rw [length_take, Nat.min_eq_left (by omega)], t.ok.es e (mem_of_getElem? he), ?_⟩
 rw [htk]
 intro k e' f hI hle E h1 h2
 have hle : c.ep ≤ e' := hle
 have h1 : c.ep ≤ E := h1
 rcases hI.pred h.chs (fun m e => ∃ cm, tn m = some cm ∧ e < cm.ep) (fun hc1 hc2 he12 hl hm hz e he => by
  obtain ⟨cz, hcz, hz2⟩ := h.grow _ hc1 _ hc2 he12 _ _ hl hm hz
  exact ⟨cz, hcz, by omega⟩) hc (by omega) (okc.rg j hA.mem2).2.2.2 hA with hk | ⟨f', hf', hk⟩ | ⟨cm, hcm, hlt⟩
 ·subst hk
  rw [hold.is n.nt]; unfold dur
  rw [if_neg (by omega)]; exact tk_le (by omega)
 ·exact (t.good k ch.ep f' hk (by omega) E h1 (by omega)).sub (take_prefix _ _)
 ·rw [n.nt] at hcm; cases hcm; omega
end
section
variable {cs : List Ch} {tn : Tn} {vs : List CS} {ml : List Lt} {gd : List Ent} {top : Ch} (h : WI cs tn vs ml gd top)
include h
theorem WI.mail {ml' : List Lt} (hm : ∀ l ∈ ml', l ∈ ml ∨ LtI cs tn l) : WI cs tn vs ml' gd top :=
 ⟨h.chs, h.tp, h.ten, h.cur, h.dom, h.dis, h.grow, fun l hl => (hm l hl).elim (h.ml l) id, h.gd⟩
theorem WI.to_pos {l : Lt} (hl : l ∈ ml) : 0 ≤ l.to := by
 have hL := h.ml l hl
 unfold LtI at hL
 split at hL
 ·obtain ⟨ch, hc, p, j, P, g1, g2, g3, g4, -⟩ := hL
  have := ((h.chs.ok ch hc).rg j g2.mem2).1; omega
 ·obtain ⟨ch, hc, z, q, L, g1, g2, g3, -⟩ := hL
  have := ((h.chs.ok ch hc).rg z g2.mem1).1; omega
theorem WI.ep_le {m : Mem} {c : CS} (hm : tn m = some c) : c.ep ≤ top.ep := by
 obtain ⟨ch, h1, h2⟩ := (h.ten m c hm).co
 rw [CS.ep_co h2]; exact h.tp.2 ch h1
theorem WI.comp {e e' : Int} {X Y : List Ent} (he : e ≤ top.ep) (he' : e' ≤ top.ep) (hX : Pot cs tn e X) (hY : Pot cs tn e' Y) : X <+: Y ∨ Y <+: X := by
 obtain ⟨z, hz⟩ := (h.chs.ok top h.tp.1).last
 have hz := getLast_mem hz
 exact (hX.1 top h.tp.1 he z hz (top.ep) he (by omega)).comp h.okTn (hY.1 top h.tp.1 he' z hz (top.ep) he' (by omega))
theorem WI.sound {i : Nat} {c : CS} (hi : vs[i]? = some c) : (gd <+: c.lg.take c.st.toNat ∨ c.lg.take c.st.toNat <+: gd) ∧ (WI cs tn vs ml (c.lg.take c.st.toNat) top) := by
 obtain ⟨n, t⟩ := h.at hi
 obtain ⟨e, he, hp⟩ := h.gd
 have hle := h.ep_le n.nt
 exact ⟨h.comp he hle hp n.st, ⟨h.chs, h.tp, h.ten, h.cur, h.dom, h.dis, h.grow, h.ml, ⟨_, hle, n.st⟩⟩⟩
theorem WI.held {i : Nat} {c : CS} (hi : vs[i]? = some c) (hf : fullO (some top) c.nd = true) : gd <+: c.lg.take c.du.toNat := by
 obtain ⟨n, t⟩ := h.at hi
 obtain ⟨e, he, hp⟩ := h.gd
 obtain ⟨m, hm, hmn⟩ := fullC_some hf
 have hh := hp.1 top h.tp.1 he m hm top.ep he (by omega)
 unfold hold at hh
 cases hk : tn m with
 | none => rw [hk] at hh; simp only [] at hh; subst hh; exact nil_prefix
 | some d =>
  rw [hk] at hh
  have : m = c.me := by
   obtain ⟨v, hv, h1, h2⟩ := h.dom m d hk
   obtain ⟨j, hj⟩ := mem_iff_getElem?.1 hv
   have : i = j := pw_ne h.dis hi hj (by rw [h1, hmn])
   subst this
   rw [hi] at hj; cases hj
   obtain ⟨ch, h3, h4, h5⟩ := t.mem
   have hle := h.ep_le n.nt
   have hma : m ∈ top.all := mem_append_left _ hm
   have hr := (h.chs.ok ch h3).rg _ h4
   have hmb : m ∈ ch.all := h.chs.mem_back h3 h.tp.1 (by omega) hma (by have : c.me.sn = c.sn := rfl; omega)
   exact h.chs.one h3 hmb h4 hmn
  subst this
  rw [n.nt] at hk; cases hk
  exact hh.trans (dur_du t.ok _)
theorem WI.prefixes {i j : Nat} {c d : CS} (hi : vs[i]? = some c) (hj : vs[j]? = some d) (hb : 0 ≤ behindO c.co c.nd) (hd : d.nd = behindO c.co c.nd) (he : d.ep = c.ep) : d.lg <+: c.lg.take c.du.toNat := by
 obtain ⟨n, t⟩ := h.at hi
 obtain ⟨n', t'⟩ := h.at hj
 obtain ⟨ch, hc, hco, okc, hep⟩ := h.chain hi
 obtain ⟨ch', hc', hco', -, hep'⟩ := h.chain hj
 have : ch' = ch := h.chs.un _ hc' _ hc (by omega)
 subst this
 rw [hco] at hb hd
 obtain ⟨p, q, hA, hp, hq⟩ := behind_of hb rfl
 have hpm := n.me ch' hco p hA.mem1 hp
 subst hpm
 have hqm := n'.me ch' hco' q hA.mem2 (by rw [hq, hd])
 subst hqm
 have hh := t'.good c.me ch'.ep 0 (.here hc' hA.sub) (by omega) c.ep (by omega) (by have := okc.e1; omega)
 rw [hold.is n.nt] at hh
 unfold dur at hh
 rw [if_neg (Int.lt_irrefl _)] at hh
 exact hh
theorem WI.turn {c' : Ch} (ok' : ChOk c') (hep : c'.ep = top.ep + 1) (hx : Nx top c') (hgr : ∀ q, top.ln = some q → c'.ms = top.ms ++ [q] → ∃ (i : Nat) (c : CS), vs[i]? = some c ∧ c.co = some top ∧ top.ms.getLast? = some c.me ∧ c.bs ≤ c.ak) : WI (c' :: cs) tn vs ml gd c' := by
 have hg : ∀ q z, top.ln = some q → c'.ms = top.ms ++ [q] → top.ms.getLast? = some z → ∃ cz, tn z = some cz ∧ cz.ep = top.ep ∧ hold tn q top.ep (cz.lg.take cz.bs.toNat) := by
  intro q z hl hm hz
  obtain ⟨i, c, hi, hco, hlast, hbk⟩ := hgr q hl hm
  rw [hz] at hlast; cases hlast
  obtain ⟨n, t⟩ := h.at hi
  have hA : Adj top.all c.me q := by
   obtain ⟨l, hl2⟩ := List.getLast?_eq_some_iff.1 hz
   exact ⟨l, [], by unfold Ch.all; rw [hl, hl2]; simp⟩
  exact ⟨c, n.nt, CS.ep_co hco, (n.ak top hco q hA).sub (tk_le (by have := t.ok.bs; omega))⟩
 have N : NewCh cs tn top c' := ⟨h.tp.2, h.tp.1, hep, hx, fun q z hl hm hz E X hE hh => by
  obtain ⟨cz, h1, h2, h3⟩ := hg q z hl hm hz
  rw [hold.is h1] at hh
  unfold dur at hh
  rw [if_pos (by omega)] at hh
  exact h3.sub hh⟩
 have hlt : ∀ d ∈ cs, d.ep < c'.ep := fun d hd => by have := h.tp.2 d hd; omega
 have hC : Chs (c' :: cs) := by
  refine ⟨fun d hd => ?_, fun d hd d' hd' he => ?_, fun d hd h1 => ?_⟩
  ·rcases mem_cons.1 hd with rfl | hd
   ·exact ok'
   ·exact h.chs.ok d hd
  ·rcases mem_cons.1 hd with e1 | k1 <;> rcases mem_cons.1 hd' with e2 | k2
   ·rw [e1, e2]
   ·have := hlt d' k2; rw [e1] at he; omega
   ·have := hlt d k1; rw [e2] at he; omega
   ·exact h.chs.un d k1 d' k2 he
  ·rcases mem_cons.1 hd with rfl | hd
   ·exact ⟨top, mem_cons_of_mem _ h.tp.1, by omega, hx⟩
   ·obtain ⟨x, h2, h3, h4⟩ := h.chs.nx d hd h1
    exact ⟨x, mem_cons_of_mem _ h2, h3, h4⟩
 have sn : ∀ d ∈ cs, ∀ m ∈ d.all, m.sn ≤ top.ep := fun d hd m hm => by have := ((h.chs.ok d hd).rg m hm).2.2.2; have := h.tp.2 d hd; omega
 have gd' : ∀ {m c}, tn m = some c → m.sn ≤ top.ep ∧ c.ep ≤ top.ep := fun {m c} hm => by
  obtain ⟨ch, h1, h2, h3⟩ := (h.ten m c hm).mem
  exact ⟨sn ch h1 m h2, h.ep_le hm⟩
 refine ⟨hC, ⟨mem_cons_self .., fun d hd => ?_⟩, fun m c hm => ?_, fun c hc => ?_, h.dom, h.dis, fun d hd d' hd' he k z hl hm hz => ?_, fun l hl => ?_, ?_⟩
 ·rcases mem_cons.1 hd with rfl | hd
  ·exact Int.le_refl _
  ·exact Int.le_of_lt (hlt d hd)
 ·have t := h.ten m c hm
  obtain ⟨x, h1, h2⟩ := t.co
  obtain ⟨y, h3, h4, h5⟩ := t.mem
  obtain ⟨g1, g2⟩ := gd' hm
  exact ⟨t.ok, t.id, ⟨x, mem_cons_of_mem _ h1, h2⟩, ⟨y, mem_cons_of_mem _ h3, h4, h5⟩, t.good.new hC h.okTn N g1 g2⟩
 ·have n := h.cur c hc
  obtain ⟨g1, g2⟩ := gd' n.nt
  exact ⟨n.nt, n.ak, n.st.new hC h.okTn N g2, fun ch h1 h2 h3 => (n.bs ch h1 h2 h3).new hC h.okTn N g2, n.me, n.st1, n.ak1, n.ow1⟩
 ·rcases mem_cons.1 hd' with rfl | hd'
  ·have : d = top := hC.un d hd top (mem_cons_of_mem _ h.tp.1) (by omega)
   subst this
   obtain ⟨cz, h1, h2, -⟩ := hg k z hl hm hz
   exact ⟨cz, h1, by omega⟩
  ·rcases mem_cons.1 hd with e1 | k1
   ·have := hlt d' hd'; rw [e1] at he; omega
   ·exact h.grow d k1 d' hd' he k z hl hm hz
 ·have hL := h.ml l hl
  unfold LtI at hL ⊢
  split
  ·rename_i hf
   rw [if_pos hf] at hL
   obtain ⟨ch, hc, p, j, P, g1, g2, g3, g4, g5, g6, g7⟩ := hL
   exact ⟨ch, mem_cons_of_mem _ hc, p, j, P, g1, g2, g3, g4, g5, g6, g7.new hC h.okTn N (sn ch hc j g2.mem2) (by have := h.tp.2 ch hc; omega)⟩
  ·rename_i hf
   rw [if_neg hf] at hL
   obtain ⟨ch, hc, z, q, L, g1, g2, g3, g4, g5, g6, g7, g8, g9, g10⟩ := hL
   have hle : l.ep ≤ top.ep := by have := h.tp.2 ch hc; omega
   exact ⟨ch, mem_cons_of_mem _ hc, z, q, L, g1, g2, g3, g4, g5, g6, g7.new hC h.okTn N (sn ch hc q g2.mem2) hle, g8, g9.new hC h.okTn N hle, fun hl => (g10 hl).new hC h.okTn N hle⟩
 ·obtain ⟨e, he, hp⟩ := h.gd
  exact ⟨e, by omega, hp.new hC h.okTn N he⟩
end
end Go.Proofs.YtejfahjgfedliaaGreat

namespace Go.Proofs.YtejfahjgfedliaaGreat
open Go Go.Sl Go.Proofs.Tryz
def CS.nxt (s : CS) : Int × Bool := if behindO s.co s.nd < 0 ∨ s.du = 0 then (0, false) else if s.ak < s.du then (s.ak + 1, true) else if s.st < s.du then (s.du, true) else (0, false)
set_option maxRecDepth 10000 in
theorem cnext_ct {s : CS} (ok : CsOk s) (h0 : 0 ≤ s.ak) (b : Nat) (v : Value) : Ct prog 86 [.pointer (some ⟨b, 0, none⟩)] [CsBk b s v] (fun r H' => r = .tuple #[.int .i64 s.nxt.1, .bool s.nxt.2] ∧ H' = [CsBk b s v]) := by
 have hbh := behind_ct ok.co s.nd
 have hd := ok.du
 have hl := ok.len
 have hlen : s.len = (s.lg.length : Int) := rfl
 unfold CS.nxt
 generalize behindO s.co s.nd = bh at hbh ⊢
 have fin : ∀ {r : Int × Bool} {r' : Int × Bool}, r = r' → Ct prog 86 [.pointer (some ⟨b, 0, none⟩)] [CsBk b s v] (fun x H' => x = .tuple #[.int .i64 r'.1, .bool r'.2] ∧ H' = [CsBk b s v]) → Ct prog 86 [.pointer (some ⟨b, 0, none⟩)] [CsBk b s v] (fun x H' => x = .tuple #[.int .i64 r.1, .bool r.2] ∧ H' = [CsBk b s v]) := fun e h => by rw [e]; exact h
 by_cases h1 : bh < 0
 ·refine fin (if_pos (.inl h1)) ?_
  refine Ct.mk' func86 rfl rfl rfl (fun g R => ?_)
  try simp only [ca]
  simp only [na]
  try refine runS ?_
  refine W.quiet Tryz.mix (by kernel_rfl) ?_
  repeat' (first | refine runS ?_ | refine lAN (s.cells v) (cfO s.co).enc rfl ?_ | refine WX.callQ rfl hbh rfl ?_ | fail)
  exact D.fin2 [CsBk b s v] _ rfl rfl rfl ⟨rfl, rfl⟩
 by_cases h2 : s.du = 0
 ·refine fin (if_pos (.inr h2)) ?_
  refine Ct.mk' func86 rfl rfl rfl (fun g R => ?_)
  try simp only [ca]
  simp only [na]
  try refine runS ?_
  refine W.quiet Tryz.mix (by kernel_rfl) ?_
  repeat' (first | refine runS ?_ | refine lAN (s.cells v) (cfO s.co).enc rfl ?_ | refine WX.callQ rfl hbh rfl ?_ | fail)
  exact D.fin2 [CsBk b s v] _ rfl rfl rfl ⟨rfl, rfl⟩
 have h12 : ¬ (bh < 0 ∨ s.du = 0) := by omega
 by_cases h3 : s.ak < s.du
 ·refine fin ((if_neg h12).trans (if_pos h3)) ?_
  refine Ct.mk' func86 rfl rfl rfl (fun g R => ?_)
  try simp only [ca]
  simp only [na]
  try refine runS ?_
  refine W.quiet Tryz.mix (by kernel_rfl) ?_
  repeat' (first | refine runS ?_ | refine lAN (s.cells v) (cfO s.co).enc rfl ?_ | refine WX.callQ rfl hbh rfl ?_ | fail)
  refine W.quiet Tryz.mix (by kernel_rfl) ?_
  try refine runS ?_
  exact D.fin2 [CsBk b s v] _ rfl rfl rfl ⟨rfl, rfl⟩
 by_cases h4 : s.st < s.du
 ·refine fin ((if_neg h12).trans ((if_neg h3).trans (if_pos h4))) ?_
  refine Ct.mk' func86 rfl rfl rfl (fun g R => ?_)
  try simp only [ca]
  simp only [na]
  try refine runS ?_
  refine W.quiet Tryz.mix (by kernel_rfl) ?_
  repeat' (first | refine runS ?_ | refine lAN (s.cells v) (cfO s.co).enc rfl ?_ | refine WX.callQ rfl hbh rfl ?_ | fail)
  refine W.quiet Tryz.mix (by kernel_rfl) ?_
  try refine runS ?_
  refine W.quiet Tryz.mix (by kernel_rfl) ?_
  try refine runS ?_
  exact D.fin2 [CsBk b s v] _ rfl rfl rfl ⟨rfl, rfl⟩
 ·refine fin ((if_neg h12).trans ((if_neg h3).trans (if_neg h4))) ?_
  refine Ct.mk' func86 rfl rfl rfl (fun g R => ?_)
  try simp only [ca]
  simp only [na]
  try refine runS ?_
  refine W.quiet Tryz.mix (by kernel_rfl) ?_
  repeat' (first | refine runS ?_ | refine lAN (s.cells v) (cfO s.co).enc rfl ?_ | refine WX.callQ rfl hbh rfl ?_ | fail)
  refine W.quiet Tryz.mix (by kernel_rfl) ?_
  try refine runS ?_
  refine W.quiet Tryz.mix (by kernel_rfl) ?_
  try refine runS ?_
  exact D.fin2 [CsBk b s v] _ rfl rfl rfl ⟨rfl, rfl⟩
def CS.cgt (s : CS) : Bool := decide (s.last) && (cfO s.co).jo && decide (s.bs ≤ s.ak)
theorem ccaught_ct {s : CS} (ok : CsOk s) (b : Nat) (v : Value) : Ct prog 135 [.pointer (some ⟨b, 0, none⟩)] [CsBk b s v] (fun r H' => r = .bool s.cgt ∧ H' = [CsBk b s v]) := by
 have hil := isLast_ct ok.co b v
 unfold CS.cgt
 by_cases h1 : s.last
 ·rw [decide_eq_true h1] at hil ⊢
  obtain ⟨jo, hj⟩ : ∃ jo, (cfO s.co).jo = jo := ⟨_, rfl⟩
  rw [hj]
  refine Ct.mk' func135 rfl rfl rfl (fun g R => ?_)
  try simp only [ca]
  simp only [na]
  try refine runS ?_
  refine W.quiet Tryz.mix (by kernel_rfl) ?_
  repeat' (first | refine runS ?_ | refine WX.callQ rfl hil rfl ?_ | fail)
  refine WX.as 12 (.bool jo) rfl (by rw [← hj]) ?_
  cases jo
  all_goals
   try refine runS ?_
   exact D.fin1 [CsBk b s v] _ rfl rfl ⟨rfl, rfl⟩
 ·rw [decide_eq_false h1] at hil ⊢
  refine Ct.mk' func135 rfl rfl rfl (fun g R => ?_)
  try simp only [ca]
  simp only [na]
  try refine runS ?_
  refine W.quiet Tryz.mix (by kernel_rfl) ?_
  repeat' (first | refine runS ?_ | refine WX.callQ rfl hil rfl ?_ | fail)
  exact D.fin1 [CsBk b s v] _ rfl rfl ⟨rfl, rfl⟩
end Go.Proofs.YtejfahjgfedliaaGreat

namespace Go.Proofs.YtejfahjgfedliaaGreat
open Go Go.Sl Go.Proofs.Tryz List
structure Nl where
 b : Nat
 s : LSt
 h : Hp
instance : Enc Nl := ⟨1, fun n => [.pointer (some ⟨n.b, 0, none⟩)], fun _ => rfl, fun _ => rfl, by decide⟩
def nhp (ns : List Nl) : Hp := (ns.map (·.h)).flatten
theorem nhp_split {ns : List Nl} {k : Nat} {m : Nl} (hk : ns[k]? = some m) : nhp ns = nhp (ns.take k) ++ (m.h ++ nhp (ns.drop (k + 1))) := by
 obtain ⟨hl, rfl⟩ := List.getElem?_eq_some_iff.1 hk
 have e : ns.take k ++ ns[k] :: ns.drop (k + 1) = ns := by rw [← drop_eq_getElem_cons hl, take_append_drop]
 have : nhp (ns.take k ++ ns[k] :: ns.drop (k + 1)) = nhp (ns.take k) ++ (ns[k].h ++ nhp (ns.drop (k + 1))) := by
  unfold nhp; rw [map_append, map_cons, flatten_append, flatten_cons]
 rw [e] at this; exact this
theorem nhp_set {ns : List Nl} {k : Nat} {m m' : Nl} (hk : ns[k]? = some m) : nhp (ns.set k m') = nhp (ns.take k) ++ (m'.h ++ nhp (ns.drop (k + 1))) := by
 have hl := (List.getElem?_eq_some_iff.1 hk).1
 rw [nhp_split (ns := ns.set k m') (k := k) (m := m') (by rw [List.getElem?_set, if_pos rfl, if_pos hl])]
 rw [take_set_of_le (Nat.le_refl _), drop_set_of_lt (Nat.lt_succ_self _)]
instance : Enc Cfg := ⟨13, Cfg.enc, fun _ => rfl, fun _ => rfl, by decide⟩
def Lt.enc (l : Lt) : List Value := [.int .i64 l.fr, .int .i64 l.to, .int .i64 l.ep, .int .i64 l.ix, .bool l.fw] ++ (l.en.enc ++ [.int .i64 l.du, .int .i64 l.st])
instance : Enc Lt := ⟨27, Lt.enc, fun _ => rfl, fun _ => rfl, by decide⟩
abbrev WwBk (b : Nat) (vn vc vm vg : Value) : Hp := [(b, .cells (List.toArray [vn, vc, vm, vg]) 74 (0, 0))]
section
variable (b : Nat) (vn vc vm vg : Value)
theorem newest_ct {cl : List Ch} {c : Ch} (hl : cl.getLast? = some c) {hc : Hp} (hs : Rs (cl.map (·.cfg)) vc hc) (hn : cl.length ≤ 1000000) :
  Ct prog 37 [.pointer (some ⟨b, 0, none⟩)] [WwBk b vn vc vm vg, hc] (fun r H' => r = .agg (List.toArray c.cfg.enc) ∧ H' = [WwBk b vn vc vm vg, hc]) := by
 obtain ⟨p, k, rfl⟩ := hs.len
 have hm : (cl.map (·.cfg)).length = cl.length := length_map _
 have h0 : 0 < cl.length := by
  cases cl with
  | nil => cases hl
  | cons a t => simp
 have hx : (cl.map (·.cfg))[((cl.map (·.cfg)).length - 1 : Int).toNat]? = some c.cfg := by
  rw [hm, show ((cl.length : Int) - 1).toNat = cl.length - 1 by omega, List.getElem?_map, ← List.getLast?_eq_getElem?, hl]; rfl
 refine Ct.mk' func37 rfl rfl rfl (fun g R => ?_)
 try simp only [ca]
 simp only [na]
 repeat' (first | refine runS ?_ | refine al (fun _ => ?_) | fail)
 rename_i b2
 refine W.mixN 8 (List.replicate 12 true) [WwBk b vn (.slice p (cl.map (·.cfg)).length k) vm vg, hc] Tryz.mix (by kernel_rfl) ?_
 repeat' (first | refine runS ?_ | refine WX.loadEW rfl hs hx rfl rfl ?_ | refine sGW Cfg.z.enc c.cfg.enc rfl rfl ?_ | fail)
 exact D.finR1 [WwBk b vn (.slice p (cl.map (·.cfg)).length k) vm vg, hc] _ rfl (.cellA rfl rfl .nil) ⟨rfl, rfl⟩
theorem turn_ct {cl : List Cfg} {hc : Hp} (hs : IsSl 34 cl vc hc) (hn : cl.length ≤ 1000000) (x : Cfg) (fine : Bool) :
  Ct prog 73 [.pointer (some ⟨b, 0, none⟩), .agg (List.toArray x.enc), .bool fine] [WwBk b vn vc vm vg, hc]
   (fun r H' => r = .tuple #[] ∧ ∃ vc' hc', H' = [WwBk b vn vc' vm vg, hc'] ∧ IsSl 34 (if fine = true then cl ++ [x] else cl) vc' hc') := by
 have hr := hs.rs
 obtain ⟨p, k, rfl⟩ := hr.len
 refine Ct.mk' func73 rfl rfl rfl (fun g R => ?_)
 try simp only [ca]
 simp only [na]
 cases fine with
 | false =>
  repeat' (first | refine runS ?_ | refine bx rfl (fun _ => ?_) | fail)
  exact D.finE [WwBk b vn (.slice p cl.length k) vm vg, hc] _ rfl ⟨rfl, _, _, rfl, hs⟩
 | true =>
  repeat' (first | refine runS ?_ | refine bx rfl (fun _ => ?_) | fail)
  rename_i b4
  refine W.mixN 8 [true, true, true, true, true, true, false, false] [WwBk b vn (.slice p cl.length k) vm vg, CfBk b4 x] Tryz.mix (by kernel_rfl) ?_
  repeat' (first | refine runS ?_ | refine lAN (t := 34) x.enc x.enc rfl ?_ | fail)
  refine I.bs ?_
  refine WX.lit (ys := [x]) rfl rfl rfl rfl rfl rfl (by decide) rfl (fun v2 h2 hs2 => ?_)
  try refine runS ?_
  refine WX.app rfl rfl hs hs2.rs rfl rfl (by decide) (by simp only [length_cons, length_nil]; omega) rfl (fun v3 h3 hs3 => ?_)
  obtain ⟨p3, c3, e3⟩ := hs3.rs.len
  subst e3
  try refine run ?_
  exact D.finE [WwBk b vn (.slice p3 (cl ++ [x]).length c3) vm vg, h3] _ rfl ⟨rfl, _, _, rfl, hs3⟩
end
section
variable (b : Nat) (vn vc vm vg : Value)
set_option maxRecDepth 10000 in
set_option maxHeartbeats 1000000 in
theorem grownW_ct {cl : List Ch} {c : Ch} (hl : cl.getLast? = some c) {hc : Hp} (hs : Rs (cl.map (·.cfg)) vc hc) (hn : cl.length ≤ 1000000) {ns : List Nl} {hw : Hp} (hsn : Rs ns vn hw) (hnl : ns.length ≤ 1000000) (hN : ∀ n ∈ ns, IsLg n.s n.b n.h ∧ CsOk n.s.ch) :
  Ct prog 76 [.pointer (some ⟨b, 0, none⟩)] [WwBk b vn vc vm vg, hc, hw, nhp ns] (fun r H' => ∃ bo, r = .bool bo ∧ H' = [WwBk b vn vc vm vg, hc, hw, nhp ns] ∧ (bo = true → ∃ (i : Nat) (n : Nl), ns[i]? = some n ∧ n.s.isUp = true ∧ n.s.ch.ep = c.ep ∧ n.s.ch.cgt = true)) := by
 have hnw := newest_ct b vn vc vm vg hl hs hn
 obtain ⟨p, k, rfl⟩ := hsn.len
 refine Ct.mk' func76 rfl rfl rfl (fun g R => ?_)
 try simp only [ca]
 simp only [na]
 try refine runS ?_
 refine W.loop (α := Nat) (fun i => i ≤ ns.length) (fun i => [(0, .pointer (some ⟨b, 0, none⟩)), (3, .int .i64 (i : Int))]) (fun _ => [WwBk b (.slice p ns.length k) vc vm vg, hc, hw, nhp ns, R]) (fun i => ns.length - i) 0 (Nat.zero_le _) (by repeat (first | exact Fsub.nil | refine Fsub.cons rfl ?_)) (Hsub.of_picks inferInstance) ?_
 intro i hi
 by_cases hlt : i < ns.length
 ·obtain ⟨m, hm⟩ : ∃ m, ns[i]? = some m := ⟨_, List.getElem?_eq_getElem hlt⟩
  obtain ⟨hat, hok⟩ := hN m (mem_of_getElem? hm)
  obtain ⟨cb, d, w, v, hv, seg, t, hd, eh, at_⟩ := hat
  obtain ⟨u, hu⟩ : ∃ u, m.s.isUp = u := ⟨_, rfl⟩
  refine W.perm (H' := [WwBk b (.slice p ns.length k) vc vm vg, hc, hw, nhp (ns.take i), LgBk m.b cb m.s.c0.dc m.s.c0.rg m.s.c0.nd d w u, CsBk cb m.s.ch v, hv, WBk w d seg t, hd, nhp (ns.drop (i + 1)), R]) (List.Perm.of_eq (by simp [nhp_split hm, eh, hu])) ?_
  have hup := lup_ct m.b cb m.s.c0.dc m.s.c0.rg m.s.c0.nd d w u
  have hep := cepoch_ct m.s.ch cb v
  have hca := ccaught_ct hok cb v
  have hsn' : Rs ns (.slice p ns.length k) hw := hsn
  have back : ∀ {n L Q e}, D g Q e n L [WwBk b (.slice p ns.length k) vc vm vg, hc, hw, nhp ns, R] → D g Q e n L [WwBk b (.slice p ns.length k) vc vm vg, hc, hw, nhp (ns.take i), LgBk m.b cb m.s.c0.dc m.s.c0.rg m.s.c0.nd d w u, CsBk cb m.s.ch v, hv, WBk w d seg t, hd, nhp (ns.drop (i + 1)), R] :=
   fun h => D.perm (List.Perm.of_eq (by simp [nhp_split hm, eh, hu])) h
  cases u with
  | false =>
   repeat' (first | refine runS ?_ | refine WX.callQ rfl hup rfl ?_ | fail)
   refine back ?_
   exact D.rd (i + 1) (by omega) (by omega)
  | true =>
   by_cases he : (cfO m.s.ch.co).ep = c.ep
   ·cases hc2 : m.s.ch.cgt with
    | false =>
     rw [hc2] at hca
     repeat' (first | refine runS ?_ | refine WX.callQ rfl hup rfl ?_ | refine WX.callQ rfl hep rfl ?_ | refine WX.callQ rfl hnw rfl ?_ | refine WX.callQ rfl hca rfl ?_ | refine WX.fld (v := .int .i64 c.ep) rfl rfl rfl ?_ | fail)
     refine back ?_
     exact D.rd (i + 1) (by omega) (by omega)
    | true =>
     rw [hc2] at hca
     repeat' (first | refine runS ?_ | refine WX.callQ rfl hup rfl ?_ | refine WX.callQ rfl hep rfl ?_ | refine WX.callQ rfl hnw rfl ?_ | refine WX.callQ rfl hca rfl ?_ | refine WX.fld (v := .int .i64 c.ep) rfl rfl rfl ?_ | fail)
     refine back ?_
     exact D.fin1 [WwBk b (.slice p ns.length k) vc vm vg, hc, hw, nhp ns] _ rfl rfl ⟨true, rfl, rfl, fun _ => ⟨i, m, hm, hu, he, hc2⟩⟩
   ·repeat' (first | refine runS ?_ | refine WX.callQ rfl hup rfl ?_ | refine WX.callQ rfl hep rfl ?_ | refine WX.callQ rfl hnw rfl ?_ | refine WX.fld (v := .int .i64 c.ep) rfl rfl rfl ?_ | fail)
    refine back ?_
    exact D.rd (i + 1) (by omega) (by omega)
 ·obtain rfl : i = ns.length := by omega
  try refine runS ?_
  exact D.fin1 [WwBk b (.slice p ns.length k) vc vm vg, hc, hw, nhp ns] _ rfl rfl ⟨false, rfl, rfl, fun h => by cases h⟩
end
def sendC (c : CS) (a : Int) (fw : Bool) (ml : List Lt) : List Lt :=
 if c.ep = 0 ∨ 200 < ml.length then ml
 else if fw = true then (if c.nxt.2 = true then ml ++ [⟨a, behindO c.co a, c.ep, c.nxt.1, true, c.lg.getD (c.nxt.1.toNat - 1) Ent.z, 0, 0⟩] else ml)
 else if 0 ≤ aheadO c.co a then ml ++ [⟨a, aheadO c.co a, c.ep, 0, false, Ent.z, c.du, c.st⟩] else ml
def sendL (s : LSt) (a : Int) (fw : Bool) (ml : List Lt) : List Lt := match s with
 | .up _ c _ => sendC c a fw ml
 | .dn _ _ _ => ml
theorem nxt_at {c : CS} (ok : CsOk c) (h0 : 0 ≤ c.ak) (h : c.nxt.2 = true) : 0 ≤ behindO c.co c.nd ∧ 1 ≤ c.nxt.1 ∧ c.nxt.1 ≤ c.du := by
 have hd := ok.du
 unfold CS.nxt at h ⊢
 split at h
 ·cases h
 ·rename_i h1
  rw [if_neg h1]
  split at h
  ·rename_i h2; rw [if_pos h2]; refine ⟨by omega, by show 1 ≤ c.ak + 1; omega, by show c.ak + 1 ≤ c.du; omega⟩
  ·rename_i h2
   rw [if_neg h2]
   split at h
   ·rename_i h3; rw [if_pos h3]; refine ⟨by omega, by show 1 ≤ c.du; omega, Int.le_refl _⟩
   ·cases h
section
variable (b : Nat) (vn vc vm vg : Value)
set_option maxRecDepth 10000 in
set_option maxHeartbeats 2000000 in
theorem send_ct {ns : List Nl} {hw : Hp} (hsn : Rs ns vn hw) {a : Nat} {m : Nl} (hm : ns[a]? = some m) (hat : IsLg m.s m.b m.h) (hok : CsOk m.s.ch) (hak : 0 ≤ m.s.ch.ak) {ml : List Lt} {hl : Hp} (hsl : IsSl 129 ml vm hl) (hll : ml.length ≤ 1000) (fw : Bool) :
  Ct prog 41 [.pointer (some ⟨b, 0, none⟩), .int .i64 (a : Int), .bool fw] [WwBk b vn vc vm vg, hw, hl, nhp ns]
   (fun r H' => r = .tuple #[] ∧ ∃ vm' hl', H' = [WwBk b vn vc vm' vg, hw, hl', nhp ns] ∧ IsSl 129 (sendL m.s a fw ml) vm' hl') := by
 have hlr := hsl.rs
 obtain ⟨p, k, rfl⟩ := hsn.len
 obtain ⟨pm, km, rfl⟩ := hlr.len
 obtain ⟨cb, d, w, v, hv, seg, t, hd, eh, at_⟩ := hat
 have hsn' : Rs ns (.slice p ns.length k) hw := hsn
 cases hs : m.s with
 | dn l c q =>
  have hup : Ct prog 22 [.pointer (some ⟨m.b, 0, none⟩)] [LgBk m.b cb c.dc c.rg c.nd d w false] (fun r H' => r = .bool false ∧ H' = [LgBk m.b cb c.dc c.rg c.nd d w false]) := lup_ct m.b cb c.dc c.rg c.nd d w false
  refine Ct.mk' func41 rfl rfl rfl (fun g R => ?_)
  try simp only [ca]
  simp only [na]
  refine W.perm (H' := [WwBk b (.slice p ns.length k) vc (.slice pm ml.length km) vg, hw, hl, nhp (ns.take a), LgBk m.b cb c.dc c.rg c.nd d w false, CsBk cb m.s.ch v, hv, WBk w d seg t, hd, nhp (ns.drop (a + 1)), R]) (List.Perm.of_eq (by simp [nhp_split hm, eh, hs, LSt.c0, LSt.isUp])) ?_
  repeat' (first | refine runS ?_ | refine WX.callQ rfl hup rfl ?_ | fail)
  refine D.perm (H' := [WwBk b (.slice p ns.length k) vc (.slice pm ml.length km) vg, hw, hl, nhp ns, R]) (List.Perm.of_eq (by simp [nhp_split hm, eh, hs, LSt.c0, LSt.isUp])) ?_
  exact D.fin0 [WwBk b (.slice p ns.length k) vc (.slice pm ml.length km) vg, hw, hl, nhp ns] _ rfl ⟨rfl, _, _, rfl, hsl⟩
 | up l c t' =>
  rw [hs] at at_ hok hak
  have hok : CsOk c := hok
  have hak : 0 ≤ c.ak := hak
  have hslg : Rs c.lg v hv := (show IsSl 43 c.lg v hv from at_.sl).rs
  have hup : Ct prog 22 [.pointer (some ⟨m.b, 0, none⟩)] [LgBk m.b cb c.dc c.rg c.nd d w true] (fun r H' => r = .bool true ∧ H' = [LgBk m.b cb c.dc c.rg c.nd d w true]) := lup_ct m.b cb c.dc c.rg c.nd d w true
  have hep := cepoch_ct c cb v
  have hnx := cnext_ct hok hak cb v
  have hcf := cconfig_ct c cb v
  have hdu := cdur_ct c cb v
  have hst := cstab_ct c cb v
  have hbe := behind_ct hok.co (a : Int)
  have hah := ahead_ct hok.co (a : Int)
  have hd1 := hok.du
  have hd2 := hok.len
  have hlen : c.len = (c.lg.length : Int) := rfl
  have hax := nxt_at hok hak
  have hc := cat_ct c cb hslg (by omega)
  show Ct _ _ _ _ (fun r H' => r = .tuple #[] ∧ ∃ vm' hl', H' = [WwBk b (.slice p ns.length k) vc vm' vg, hw, hl', nhp ns] ∧ IsSl 129 (sendC c a fw ml) vm' hl')
  unfold sendC
  have fin : ∀ {x y : List Lt}, x = y → Ct prog 41 [.pointer (some ⟨b, 0, none⟩), .int .i64 (a : Int), .bool fw] [WwBk b (.slice p ns.length k) vc (.slice pm ml.length km) vg, hw, hl, nhp ns]
   (fun r H' => r = .tuple #[] ∧ ∃ vm' hl', H' = [WwBk b (.slice p ns.length k) vc vm' vg, hw, hl', nhp ns] ∧ IsSl 129 y vm' hl') → Ct prog 41 [.pointer (some ⟨b, 0, none⟩), .int .i64 (a : Int), .bool fw] [WwBk b (.slice p ns.length k) vc (.slice pm ml.length km) vg, hw, hl, nhp ns]
   (fun r H' => r = .tuple #[] ∧ ∃ vm' hl', H' = [WwBk b (.slice p ns.length k) vc vm' vg, hw, hl', nhp ns] ∧ IsSl 129 x vm' hl') := fun e h => by rw [e]; exact h
  by_cases h1 : (cfO c.co).ep = 0
  ·refine fin (if_pos (.inl h1)) ?_
   skip
   refine Ct.mk' func41 rfl rfl rfl (fun g R => ?_)
   try simp only [ca]
   simp only [na]
   refine W.perm (H' := [WwBk b (.slice p ns.length k) vc (.slice pm ml.length km) vg, hw, hl, nhp (ns.take a), LgBk m.b cb c.dc c.rg c.nd d w true, CsBk cb c v, hv, WBk w d seg t, hd, nhp (ns.drop (a + 1)), R]) (List.Perm.of_eq (by simp [nhp_split hm, eh, hs, LSt.c0, LSt.isUp, LSt.ch])) ?_
   repeat' (first | refine runS ?_ | refine WX.callQ rfl hup rfl ?_ | refine WX.callQ rfl hep rfl ?_ | fail)
   refine D.perm (H' := [WwBk b (.slice p ns.length k) vc (.slice pm ml.length km) vg, hw, hl, nhp ns, R]) (List.Perm.of_eq (by simp [nhp_split hm, eh, hs, LSt.c0, LSt.isUp, LSt.ch])) ?_
   first | exact D.fin0 [WwBk b (.slice p ns.length k) vc (.slice pm ml.length km) vg, hw, hl, nhp ns] _ rfl ⟨rfl, _, _, rfl, hsl⟩ | exact D.finE [WwBk b (.slice p ns.length k) vc (.slice pm ml.length km) vg, hw, hl, nhp ns] _ rfl ⟨rfl, _, _, rfl, hsl⟩
  by_cases h2 : 200 < ml.length
  ·refine fin (if_pos (.inr h2)) ?_
   skip
   refine Ct.mk' func41 rfl rfl rfl (fun g R => ?_)
   try simp only [ca]
   simp only [na]
   refine W.perm (H' := [WwBk b (.slice p ns.length k) vc (.slice pm ml.length km) vg, hw, hl, nhp (ns.take a), LgBk m.b cb c.dc c.rg c.nd d w true, CsBk cb c v, hv, WBk w d seg t, hd, nhp (ns.drop (a + 1)), R]) (List.Perm.of_eq (by simp [nhp_split hm, eh, hs, LSt.c0, LSt.isUp, LSt.ch])) ?_
   repeat' (first | refine runS ?_ | refine WX.callQ rfl hup rfl ?_ | refine WX.callQ rfl hep rfl ?_ | fail)
   refine D.perm (H' := [WwBk b (.slice p ns.length k) vc (.slice pm ml.length km) vg, hw, hl, nhp ns, R]) (List.Perm.of_eq (by simp [nhp_split hm, eh, hs, LSt.c0, LSt.isUp, LSt.ch])) ?_
   first | exact D.fin0 [WwBk b (.slice p ns.length k) vc (.slice pm ml.length km) vg, hw, hl, nhp ns] _ rfl ⟨rfl, _, _, rfl, hsl⟩ | exact D.finE [WwBk b (.slice p ns.length k) vc (.slice pm ml.length km) vg, hw, hl, nhp ns] _ rfl ⟨rfl, _, _, rfl, hsl⟩
  have h12 : ¬ (c.ep = 0 ∨ 200 < ml.length) := fun h => h.elim h1 h2
  cases fw with
  | true =>
   cases hn : c.nxt.2 with
   | false =>
    rw [hn] at hnx
    refine fin ((if_neg h12).trans ((if_pos rfl).trans (if_neg (by decide)))) ?_
    skip
    refine Ct.mk' func41 rfl rfl rfl (fun g R => ?_)
    try simp only [ca]
    simp only [na]
    refine W.perm (H' := [WwBk b (.slice p ns.length k) vc (.slice pm ml.length km) vg, hw, hl, nhp (ns.take a), LgBk m.b cb c.dc c.rg c.nd d w true, CsBk cb c v, hv, WBk w d seg t, hd, nhp (ns.drop (a + 1)), R]) (List.Perm.of_eq (by simp [nhp_split hm, eh, hs, LSt.c0, LSt.isUp, LSt.ch])) ?_
    repeat' (first | refine runS ?_ | refine WX.callQ rfl hup rfl ?_ | refine WX.callQ rfl hep rfl ?_ | refine WX.callQ rfl hnx rfl ?_ | fail)
    refine D.perm (H' := [WwBk b (.slice p ns.length k) vc (.slice pm ml.length km) vg, hw, hl, nhp ns, R]) (List.Perm.of_eq (by simp [nhp_split hm, eh, hs, LSt.c0, LSt.isUp, LSt.ch])) ?_
    first | exact D.fin0 [WwBk b (.slice p ns.length k) vc (.slice pm ml.length km) vg, hw, hl, nhp ns] _ rfl ⟨rfl, _, _, rfl, hsl⟩ | exact D.finE [WwBk b (.slice p ns.length k) vc (.slice pm ml.length km) vg, hw, hl, nhp ns] _ rfl ⟨rfl, _, _, rfl, hsl⟩
   | true =>
    rw [hn] at hnx
    obtain ⟨hx0, hx1, hx2⟩ := hax hn
    have hc := hc c.nxt.1 (by omega)
    rw [if_pos ⟨hx1, by omega⟩, decide_eq_true (show 1 ≤ c.nxt.1 ∧ c.nxt.1 ≤ c.len by omega)] at hc
    refine fin ((if_neg h12).trans ((if_pos rfl).trans (if_pos rfl))) ?_
    generalize c.nxt.1 = ix at *
    generalize c.lg.getD (ix.toNat - 1) Ent.z = e at *
    generalize behindO c.co (a : Int) = bh at *
    skip
    refine Ct.mk' func41 rfl rfl rfl (fun g R => ?_)
    try simp only [ca]
    simp only [na]
    refine W.perm (H' := [WwBk b (.slice p ns.length k) vc (.slice pm ml.length km) vg, hw, hl, nhp (ns.take a), LgBk m.b cb c.dc c.rg c.nd d w true, CsBk cb c v, hv, WBk w d seg t, hd, nhp (ns.drop (a + 1)), R]) (List.Perm.of_eq (by simp [nhp_split hm, eh, hs, LSt.c0, LSt.isUp, LSt.ch])) ?_
    repeat' (first | refine runS ?_ | refine al (fun _ => ?_) | refine WX.callQ rfl hup rfl ?_ | refine WX.callQ rfl hep rfl ?_ | refine WX.callQ rfl hnx rfl ?_ | refine WX.callQ rfl hc rfl ?_ | refine sGW Ent.z.enc e.enc rfl rfl ?_ | fail)
    rename_i b9
    refine W.mixT [true, true, true, true, true, true, true, true, true, true, false, true, false, true, true, true, true, false, true, true, true, false, false] [WwBk b (.slice p ns.length k) vc (.slice pm ml.length km) vg, LgBk m.b cb c.dc c.rg c.nd d w true, CsBk cb c v, EnBk b9 e] Tryz.mix (by kernel_rfl) ?_
    repeat' (first | refine runS ?_ | refine lAN (t := 43) e.enc e.enc rfl ?_ | refine WX.callQ rfl hcf rfl ?_ | refine WX.callQ rfl hbe rfl ?_ | refine WX.callQ rfl hep rfl ?_ | refine bdN (Lt.enc ⟨a, bh, (cfO c.co).ep, ix, true, e, 0, 0⟩) ?_ | fail)
    refine I.bs ?_
    refine WX.lit (ys := [(⟨a, bh, (cfO c.co).ep, ix, true, e, 0, 0⟩ : Lt)]) rfl rfl rfl rfl rfl rfl (by decide) rfl (fun v2 h2 hs2 => ?_)
    try refine runS ?_
    refine WX.app rfl rfl hsl hs2.rs rfl rfl (by decide) (by simp only [length_cons, length_nil]; omega) rfl (fun v3 h3 hs3 => ?_)
    obtain ⟨p3, k3, e3⟩ := hs3.rs.len
    subst e3
    try refine run ?_
    refine D.sub (H' := [WwBk b (.slice p ns.length k) vc (.slice p3 (ml ++ [(⟨a, bh, (cfO c.co).ep, ix, true, e, 0, 0⟩ : Lt)]).length k3) vg, hw, h3, nhp (ns.take a), LgBk m.b cb c.dc c.rg c.nd d w true, CsBk cb c v, hv, WBk w d seg t, hd, nhp (ns.drop (a + 1)), R]) (Fsub.refl _) (Hsub.of_picks inferInstance) ?_
    refine D.perm (H' := [WwBk b (.slice p ns.length k) vc (.slice p3 (ml ++ [(⟨a, bh, (cfO c.co).ep, ix, true, e, 0, 0⟩ : Lt)]).length k3) vg, hw, h3, nhp ns, R]) (List.Perm.of_eq (by simp [nhp_split hm, eh, hs, LSt.c0, LSt.isUp, LSt.ch])) ?_
    first | exact D.fin0 [WwBk b (.slice p ns.length k) vc (.slice p3 (ml ++ [(⟨a, bh, (cfO c.co).ep, ix, true, e, 0, 0⟩ : Lt)]).length k3) vg, hw, h3, nhp ns] _ rfl ⟨rfl, _, _, rfl, hs3⟩ | exact D.finE [WwBk b (.slice p ns.length k) vc (.slice p3 (ml ++ [(⟨a, bh, (cfO c.co).ep, ix, true, e, 0, 0⟩ : Lt)]).length k3) vg, hw, h3, nhp ns] _ rfl ⟨rfl, _, _, rfl, hs3⟩
  | false =>
   by_cases h3 : 0 ≤ aheadO c.co (a : Int)
   ·refine fin ((if_neg h12).trans ((if_neg (by decide)).trans (if_pos h3))) ?_
    generalize aheadO c.co (a : Int) = ah at *
    skip
    refine Ct.mk' func41 rfl rfl rfl (fun g R => ?_)
    try simp only [ca]
    simp only [na]
    refine W.perm (H' := [WwBk b (.slice p ns.length k) vc (.slice pm ml.length km) vg, hw, hl, nhp (ns.take a), LgBk m.b cb c.dc c.rg c.nd d w true, CsBk cb c v, hv, WBk w d seg t, hd, nhp (ns.drop (a + 1)), R]) (List.Perm.of_eq (by simp [nhp_split hm, eh, hs, LSt.c0, LSt.isUp, LSt.ch])) ?_
    repeat' (first | refine runS ?_ | refine WX.callQ rfl hup rfl ?_ | refine WX.callQ rfl hep rfl ?_ | refine WX.callQ rfl hcf rfl ?_ | refine WX.callQ rfl hah rfl ?_ | fail)
    refine W.mixT [true, true, true, true, true, true, true, true, true, true, true, false, true, true, true, true, false, true, true, true, true, false, true, false, false] [WwBk b (.slice p ns.length k) vc (.slice pm ml.length km) vg, LgBk m.b cb c.dc c.rg c.nd d w true, CsBk cb c v] Tryz.mix (by kernel_rfl) ?_
    repeat' (first | refine runS ?_ | refine WX.callQ rfl hep rfl ?_ | refine WX.callQ rfl hdu rfl ?_ | refine WX.callQ rfl hst rfl ?_ | refine bdN (Lt.enc ⟨a, ah, (cfO c.co).ep, 0, false, Ent.z, c.du, c.st⟩) ?_ | fail)
    refine I.bs ?_
    refine WX.lit (ys := [(⟨a, ah, (cfO c.co).ep, 0, false, Ent.z, c.du, c.st⟩ : Lt)]) rfl rfl rfl rfl rfl rfl (by decide) rfl (fun v2 h2 hs2 => ?_)
    try refine runS ?_
    refine WX.app rfl rfl hsl hs2.rs rfl rfl (by decide) (by simp only [length_cons, length_nil]; omega) rfl (fun v3 h3 hs3 => ?_)
    obtain ⟨p3, k3, e3⟩ := hs3.rs.len
    subst e3
    try refine run ?_
    refine D.sub (H' := [WwBk b (.slice p ns.length k) vc (.slice p3 (ml ++ [(⟨a, ah, (cfO c.co).ep, 0, false, Ent.z, c.du, c.st⟩ : Lt)]).length k3) vg, hw, h3, nhp (ns.take a), LgBk m.b cb c.dc c.rg c.nd d w true, CsBk cb c v, hv, WBk w d seg t, hd, nhp (ns.drop (a + 1)), R]) (Fsub.refl _) (Hsub.of_picks inferInstance) ?_
    refine D.perm (H' := [WwBk b (.slice p ns.length k) vc (.slice p3 (ml ++ [(⟨a, ah, (cfO c.co).ep, 0, false, Ent.z, c.du, c.st⟩ : Lt)]).length k3) vg, hw, h3, nhp ns, R]) (List.Perm.of_eq (by simp [nhp_split hm, eh, hs, LSt.c0, LSt.isUp, LSt.ch])) ?_
    first | exact D.fin0 [WwBk b (.slice p ns.length k) vc (.slice p3 (ml ++ [(⟨a, ah, (cfO c.co).ep, 0, false, Ent.z, c.du, c.st⟩ : Lt)]).length k3) vg, hw, h3, nhp ns] _ rfl ⟨rfl, _, _, rfl, hs3⟩ | exact D.finE [WwBk b (.slice p ns.length k) vc (.slice p3 (ml ++ [(⟨a, ah, (cfO c.co).ep, 0, false, Ent.z, c.du, c.st⟩ : Lt)]).length k3) vg, hw, h3, nhp ns] _ rfl ⟨rfl, _, _, rfl, hs3⟩
   ·refine fin ((if_neg h12).trans ((if_neg (by decide)).trans (if_neg h3))) ?_
    skip
    refine Ct.mk' func41 rfl rfl rfl (fun g R => ?_)
    try simp only [ca]
    simp only [na]
    refine W.perm (H' := [WwBk b (.slice p ns.length k) vc (.slice pm ml.length km) vg, hw, hl, nhp (ns.take a), LgBk m.b cb c.dc c.rg c.nd d w true, CsBk cb c v, hv, WBk w d seg t, hd, nhp (ns.drop (a + 1)), R]) (List.Perm.of_eq (by simp [nhp_split hm, eh, hs, LSt.c0, LSt.isUp, LSt.ch])) ?_
    repeat' (first | refine runS ?_ | refine WX.callQ rfl hup rfl ?_ | refine WX.callQ rfl hep rfl ?_ | refine WX.callQ rfl hcf rfl ?_ | refine WX.callQ rfl hah rfl ?_ | fail)
    refine D.perm (H' := [WwBk b (.slice p ns.length k) vc (.slice pm ml.length km) vg, hw, hl, nhp ns, R]) (List.Perm.of_eq (by simp [nhp_split hm, eh, hs, LSt.c0, LSt.isUp, LSt.ch])) ?_
    first | exact D.fin0 [WwBk b (.slice p ns.length k) vc (.slice pm ml.length km) vg, hw, hl, nhp ns] _ rfl ⟨rfl, _, _, rfl, hsl⟩ | exact D.finE [WwBk b (.slice p ns.length k) vc (.slice pm ml.length km) vg, hw, hl, nhp ns] _ rfl ⟨rfl, _, _, rfl, hsl⟩
end
structure Dd where
 (k a b n : Int)
 tw : Bool
 (key val : ByteArray)
def Dd.enc (d : Dd) : List Value := [.int .i64 d.k, .int .i64 d.a, .int .i64 d.b, .int .i64 d.n, .bool d.tw, .string d.key, .string d.val]
instance : Enc Dd := ⟨7, Dd.enc, fun _ => rfl, fun _ => rfl, by decide⟩
def Lt.z : Lt := ⟨0, 0, 0, 0, false, Ent.z, 0, 0⟩
def among (i : Int) (n : Nat) : Nat := ((i.tmod n + n).tmod n).toNat
theorem among_ok (i : Int) {n : Nat} (h : 0 < n) : -(n : Int) < i.tmod n ∧ i.tmod n < n ∧ (i.tmod n + n).tmod n = ((among i n : Nat) : Int) ∧ among i n < n := by
 have h1 : i.tmod n < n := Int.tmod_lt_of_pos i (by omega)
 have h2 : -(n : Int) < i.tmod n := Int.neg_lt_of_neg_lt (by
  have : (-i).tmod n < n := Int.tmod_lt_of_pos (-i) (by omega)
  rw [Int.neg_tmod] at this; exact this)
 have h3 : 0 ≤ (i.tmod n + n).tmod n := Int.tmod_nonneg _ (by omega)
 have h4 : (i.tmod n + n).tmod n < n := Int.tmod_lt_of_pos _ (by omega)
 unfold among
 exact ⟨h2, h1, by omega, by omega⟩
def recvL (s : LSt) (l : Lt) : LSt := if l.fw = true then (s.take l.fr l.ep l.ix l.en).2 else (s.heard l.fr l.ep l.du l.st).2
def comeM (d : Dd) (ml : List Lt) : List Lt := if d.tw = false ∨ d.k = 6 then ml.eraseIdx (among d.n ml.length) else ml
def comeS (d : Dd) (ml : List Lt) (ss : List LSt) : List LSt := match ml[among d.n ml.length]? with
 | none => ss
 | some l => if d.k = 6 ∨ (ss.length : Int) ≤ l.to then ss else match ss[l.to.toNat]? with
  | none => ss
  | some s => ss.set l.to.toNat (recvL s l)
theorem rs_encs {xs ys : List Nl} {v : Value} {h : Hp} (hs : Rs xs v h) (e : xs.map (·.b) = ys.map (·.b)) : Rs ys v h := by
 obtain ⟨a, c, rfl, le, f⟩ := hs
 have hl : xs.length = ys.length := by have := congrArg List.length e; simpa using this
 refine ⟨a, c, by rw [hl], by omega, fun k y hk => ?_⟩
 obtain ⟨x, hx⟩ : ∃ x, xs[k]? = some x := ⟨_, List.getElem?_eq_getElem (by have := (List.getElem?_eq_some_iff.1 hk).1; omega)⟩
 have hxy : x.b = y.b := by
  have := congrArg (fun l => l[k]?) e
  simp only [List.getElem?_map, hx, hk, Option.map_some] at this
  exact Option.some.inj this
 obtain ⟨b, off, e1, e2⟩ := f k x hx
 refine ⟨b, off, e1, fun j u hu => e2 j u ?_⟩
 have : Enc.enc x = Enc.enc y := by show [Value.pointer (some ⟨x.b, 0, none⟩)] = [Value.pointer (some ⟨y.b, 0, none⟩)]; rw [hxy]
 rw [this]; exact hu
structure Nds (ss : List LSt) (ns : List Nl) (vn : Value) (hw : Hp) : Prop where
 ss : ns.map (·.s) = ss
 rs : Rs ns vn hw
 at_ : ∀ n ∈ ns, IsLg n.s n.b n.h
theorem Nds.set {ss : List LSt} {ns : List Nl} {vn : Value} {hw : Hp} (h : Nds ss ns vn hw) {i : Nat} {m : Nl} (hm : ns[i]? = some m) {s' : LSt} {h' : Hp} (hl : IsLg s' m.b h') : Nds (ss.set i s') (ns.set i ⟨m.b, s', h'⟩) vn hw := by
 refine ⟨by rw [List.map_set, h.ss], rs_encs h.rs ?_, fun n hn => ?_⟩
 ·rw [List.map_set]
  obtain ⟨hi, rfl⟩ := List.getElem?_eq_some_iff.1 hm
  have : ns[i].b = (ns.map (·.b))[i]'(by simpa using hi) := by simp
  rw [this]; exact (set_getElem_self _).symm
 ·obtain ⟨j, hj⟩ := mem_iff_getElem?.1 hn
  rw [List.getElem?_set] at hj
  split at hj
  ·split at hj
   ·cases hj; exact hl
   ·cases hj
  ·exact h.at_ n (mem_of_getElem? hj)
theorem rs_cap {xs : List Lt} {p : Option Addr} {l c : Nat} {h : Hp} (hs : Rs xs (.slice p l c) h) : xs.length ≤ c := by
 obtain ⟨a, c', e, le, -⟩ := hs
 cases e; exact le
abbrev DdBk (b : Nat) (d : Dd) : Hp := [(b, .cells (List.toArray d.enc) 68 (0, 0))]
abbrev LtBk (b : Nat) (l : Lt) : Hp := [(b, .cells (List.toArray l.enc) 129 (0, 0))]
section
variable (b : Nat) (vn vc vm vg : Value)
set_option maxRecDepth 10000 in
set_option maxHeartbeats 2000000 in
theorem come_ct {ss : List LSt} {ns : List Nl} {hw : Hp} (hN : Nds ss ns vn hw) {N : Int} (hok : ∀ s ∈ ss, s.ok N) (hN1 : N < 1099511627776) {ml : List Lt} {hl : Hp} (hsl : IsSl 129 ml vm hl) (hll : ml.length ≤ 1000) (hto : ∀ l ∈ ml, 0 ≤ l.to) (d : Dd) (hnl : ns.length ≤ 1000)
  (hd1 : -9223372036854775808 ≤ d.n ∧ d.n ≤ 9223372036854775807) :
  Ct prog 42 [.pointer (some ⟨b, 0, none⟩), .agg (List.toArray d.enc)] [WwBk b vn vc vm vg, hw, hl, nhp ns]
   (fun r H' => r = .tuple #[] ∧ ∃ vm' hl' ns', H' = [WwBk b vn vc vm' vg, hw, hl', nhp ns'] ∧ IsSl 129 (comeM d ml) vm' hl' ∧ Nds (comeS d ml ss) ns' vn hw) := by
 have hlr := hsl.rs
 have hsn := hN.rs
 obtain ⟨p, k, rfl⟩ := hsn.len
 obtain ⟨pm, km, rfl⟩ := hlr.len
 have hsn' : Rs ns (.slice p ns.length k) hw := hsn
 have hlr' : Rs ml (.slice pm ml.length km) hl := hlr
 have hss : ss.length = ns.length := by rw [← hN.ss, length_map]
 by_cases h0 : ml.length = 0
 ·have he : ml = [] := length_eq_zero_iff.1 h0
  have e1 : comeM d ml = ml := by unfold comeM; rw [he]; split <;> rfl
  have e2 : comeS d ml ss = ss := by unfold comeS; rw [he]; rfl
  rw [e1, e2]
  refine Ct.mk' func42 rfl rfl rfl (fun g R => ?_)
  try simp only [ca]
  simp only [na]
  repeat' (first | refine runS ?_ | refine bx rfl (fun _ => ?_) | fail)
  exact D.fin0 [WwBk b (.slice p ns.length k) vc (.slice pm ml.length km) vg, hw, hl, nhp ns] _ rfl ⟨rfl, _, _, ns, rfl, hsl, hN⟩
 ·obtain ⟨a1, a2, a3, a4⟩ := among_ok d.n (n := ml.length) (by omega)
  obtain ⟨SS, hSS⟩ : ∃ SS, comeS d ml ss = SS := ⟨_, rfl⟩
  rw [hSS]
  unfold comeM
  generalize hK : among d.n ml.length = K at *
  obtain ⟨l, hlk⟩ : ∃ l, ml[K]? = some l := ⟨_, List.getElem?_eq_getElem a4⟩
  have hl0 := hto l (mem_of_getElem? hlk)
  obtain ⟨tw, htw⟩ : ∃ tw, d.tw = tw := ⟨_, rfl⟩
  rw [htw]
  have hcap : ml.length ≤ km := rs_cap hlr'
  have hrf := hlr'.from (m := 27) rfl (lo := K + 1) (by omega)
  refine Ct.mk' func42 rfl rfl rfl (fun g R => ?_)
  try simp only [ca]
  simp only [na]
  repeat' (first | refine runS ?_ | refine bx rfl (fun _ => ?_) | fail)
  rename_i b3
  refine W.quiet Tryz.mix (by kernel_rfl) ?_
  repeat' (first | refine runS ?_ | refine re ?_ | fail)
  refine WX.as 4 (.int .i64 (K : Int)) rfl (by rw [a3]) ?_
  refine WX.as 37 (.int .i64 (K : Int)) rfl (by rw [a3]) ?_
  by_cases h6 : d.k = 6
  ·have eS : SS = ss := by rw [← hSS]; unfold comeS; rw [hK, hlk]; exact if_pos (.inl h6)
   rw [if_pos (.inr h6), eS]
   cases tw
   all_goals
    repeat' (first | refine runS ?_ | refine al (fun _ => ?_) | refine WX.loadEW rfl hlr' hlk rfl rfl ?_ | refine sGW Lt.z.enc l.enc rfl rfl ?_ | fail)
    rename_i b5
    refine WX.as 43 (.bool (!_)) rfl (by rw [htw]) ?_
    try refine runS ?_
    refine W.mixN 8 [true, false, true, true, true, true, true, true, false, true, true, true, true, true, true, true, false] [WwBk b (.slice p ns.length k) vc (.slice pm ml.length km) vg] Tryz.mix (by kernel_rfl) ?_
    try refine runS ?_
    refine I.bs ?_
    refine WX.lit (ys := ([] : List Lt)) (vs := []) rfl rfl rfl rfl rfl rfl (by decide) rfl (fun v1 h1 hs1 => ?_)
    try refine runS ?_
    refine WX.app rfl rfl hs1 (hlr'.take (m := K) (by omega)) rfl rfl (by decide) (by simp only [length_nil, length_take]; omega) rfl (fun v2 h2 hs2 => ?_)
    try refine runS ?_
    refine WX.cutFrom (lo := K + 1) rfl rfl (by omega) hcap rfl ?_
    try refine runS ?_
    refine WX.app rfl rfl hs2 hrf rfl rfl (by decide) (by simp only [length_nil, length_append, length_take, length_drop]; omega) rfl (fun v3 h3 hs3 => ?_)
    rw [nil_append, ← eraseIdx_eq_take_drop_succ] at hs3
    obtain ⟨p3, k3, e3⟩ := hs3.rs.len
    subst e3
    try refine run ?_
    refine W.quiet Tryz.mix (by kernel_rfl) ?_
    try refine runS ?_
    exact D.fin0 [WwBk b (.slice p ns.length k) vc (.slice p3 (ml.eraseIdx K).length k3) vg, hw, h3, nhp ns] _ rfl ⟨rfl, _, _, ns, rfl, hs3, hN⟩
  ·cases tw
   ·rw [if_pos (.inl rfl)]
    repeat' (first | refine runS ?_ | refine al (fun _ => ?_) | refine WX.loadEW rfl hlr' hlk rfl rfl ?_ | refine sGW Lt.z.enc l.enc rfl rfl ?_ | fail)
    rename_i b5
    refine WX.as 43 (.bool (!_)) rfl (by rw [htw]) ?_
    try refine runS ?_
    refine W.mixN 8 [true, false, true, true, true, true, true, true, false, true, true, true, true, true, true, true, false] [WwBk b (.slice p ns.length k) vc (.slice pm ml.length km) vg] Tryz.mix (by kernel_rfl) ?_
    try refine runS ?_
    refine I.bs ?_
    refine WX.lit (ys := ([] : List Lt)) (vs := []) rfl rfl rfl rfl rfl rfl (by decide) rfl (fun v1 h1 hs1 => ?_)
    try refine runS ?_
    refine WX.app rfl rfl hs1 (hlr'.take (m := K) (by omega)) rfl rfl (by decide) (by simp only [length_nil, length_take]; omega) rfl (fun v2 h2 hs2 => ?_)
    try refine runS ?_
    refine WX.cutFrom (lo := K + 1) rfl rfl (by omega) hcap rfl ?_
    try refine runS ?_
    refine WX.app rfl rfl hs2 hrf rfl rfl (by decide) (by simp only [length_nil, length_append, length_take, length_drop]; omega) rfl (fun v3 h3 hs3 => ?_)
    rw [nil_append, ← eraseIdx_eq_take_drop_succ] at hs3
    obtain ⟨p3, k3, e3⟩ := hs3.rs.len
    subst e3
    try refine run ?_
    refine W.quiet Tryz.mix (by kernel_rfl) ?_
    by_cases h7 : (ns.length : Int) ≤ l.to
    ·have eS : SS = ss := by rw [← hSS]; unfold comeS; rw [hK, hlk]; exact if_pos (.inr (by rw [hss]; exact h7))
     rw [eS]
     try refine runS ?_
     exact D.fin0 [WwBk b (.slice p ns.length k) vc (.slice p3 ((ml.eraseIdx K)).length k3) vg, hw, h3, nhp ns] _ rfl ⟨rfl, _, _, ns, rfl, hs3, hN⟩
    obtain ⟨m, hm⟩ : ∃ m, ns[l.to.toNat]? = some m := ⟨_, List.getElem?_eq_getElem (by omega)⟩
    have hms : ss[l.to.toNat]? = some m.s := by rw [← hN.ss, List.getElem?_map, hm]; rfl
    have eS : SS = ss.set l.to.toNat (recvL m.s l) := by rw [← hSS]; unfold comeS; rw [hK, hlk]; simp only []; rw [if_neg (show ¬ (d.k = 6 ∨ (ss.length : Int) ≤ l.to) by rw [hss]; omega), hms]
    rw [eS]
    have hlm := hN.at_ m (mem_of_getElem? hm)
    have okm := hok m.s (mem_of_getElem? hms)
    try refine runS ?_
    refine W.quiet Tryz.mix (by kernel_rfl) ?_
    try refine runS ?_
    refine W.sub (H' := [LtBk b5 l, WwBk b (.slice p ns.length k) vc (.slice p3 ((ml.eraseIdx K)).length k3) vg, hw, h3, nhp ns, R]) (Fsub.refl _) (Hsub.of_picks inferInstance) ?_
    refine W.perm (H' := [LtBk b5 l, WwBk b (.slice p ns.length k) vc (.slice p3 ((ml.eraseIdx K)).length k3) vg, hw, h3, nhp (ns.take l.to.toNat), m.h, nhp (ns.drop (l.to.toNat + 1)), R]) (List.Perm.of_eq (by simp [nhp_split hm])) ?_
    cases hfw : l.fw with
    | true =>
     have e9 : recvL m.s l = (m.s.take l.fr l.ep l.ix l.en).2 := if_pos hfw
     rw [e9]
     repeat' (first | refine runS ?_ | refine lAN (t := 43) l.enc l.en.enc rfl ?_ | fail)
     refine WX.call rfl (lgtake_ct okm hlm l.fr l.ep l.ix l.en) rfl ?_
     rintro _ _ ⟨rfl, h', rfl, hl'⟩
     simp only [ca, na]
     try refine runS ?_
     refine D.sub (H' := [WwBk b (.slice p ns.length k) vc (.slice p3 ((ml.eraseIdx K)).length k3) vg, hw, h3, nhp (ns.take l.to.toNat), h', nhp (ns.drop (l.to.toNat + 1)), R]) (Fsub.refl _) (Hsub.of_picks inferInstance) ?_
     refine D.perm (H' := [WwBk b (.slice p ns.length k) vc (.slice p3 ((ml.eraseIdx K)).length k3) vg, hw, h3, nhp (ns.set l.to.toNat ⟨m.b, (m.s.take l.fr l.ep l.ix l.en).2, h'⟩), R]) (List.Perm.of_eq (by simp [nhp_set hm])) ?_
     first | exact D.finE [WwBk b (.slice p ns.length k) vc (.slice p3 ((ml.eraseIdx K)).length k3) vg, hw, h3, nhp (ns.set l.to.toNat ⟨m.b, (m.s.take l.fr l.ep l.ix l.en).2, h'⟩)] _ rfl ⟨rfl, _, _, _, rfl, hs3, hN.set hm hl'⟩ | exact D.fin0 [WwBk b (.slice p ns.length k) vc (.slice p3 ((ml.eraseIdx K)).length k3) vg, hw, h3, nhp (ns.set l.to.toNat ⟨m.b, (m.s.take l.fr l.ep l.ix l.en).2, h'⟩)] _ rfl ⟨rfl, _, _, _, rfl, hs3, hN.set hm hl'⟩
    | false =>
     have e9 : recvL m.s l = (m.s.heard l.fr l.ep l.du l.st).2 := if_neg (by rw [hfw]; decide)
     rw [e9]
     have hup := lgup_ct hlm
     cases hs : m.s with
     | dn l0 c q =>
      rw [hs] at hup
      have hup : Ct prog 22 [.pointer (some ⟨m.b, 0, none⟩)] [m.h] (fun r H' => r = .bool false ∧ H' = [m.h]) := hup
      repeat' (first | refine runS ?_ | refine WX.callQ rfl hup rfl ?_ | fail)
      rw [hs] at hlm
      have hl' : IsLg ((LSt.dn l0 c q).heard l.fr l.ep l.du l.st).2 m.b m.h := hlm
      refine D.sub (H' := [WwBk b (.slice p ns.length k) vc (.slice p3 ((ml.eraseIdx K)).length k3) vg, hw, h3, nhp (ns.take l.to.toNat), m.h, nhp (ns.drop (l.to.toNat + 1)), R]) (Fsub.refl _) (Hsub.of_picks inferInstance) ?_
      refine D.perm (H' := [WwBk b (.slice p ns.length k) vc (.slice p3 ((ml.eraseIdx K)).length k3) vg, hw, h3, nhp (ns.set l.to.toNat ⟨m.b, ((LSt.dn l0 c q).heard l.fr l.ep l.du l.st).2, m.h⟩), R]) (List.Perm.of_eq (by simp [nhp_set hm])) ?_
      first | exact D.finE [WwBk b (.slice p ns.length k) vc (.slice p3 ((ml.eraseIdx K)).length k3) vg, hw, h3, nhp (ns.set l.to.toNat ⟨m.b, ((LSt.dn l0 c q).heard l.fr l.ep l.du l.st).2, m.h⟩)] _ rfl ⟨rfl, _, _, _, rfl, hs3, hN.set hm hl'⟩ | exact D.fin0 [WwBk b (.slice p ns.length k) vc (.slice p3 ((ml.eraseIdx K)).length k3) vg, hw, h3, nhp (ns.set l.to.toNat ⟨m.b, ((LSt.dn l0 c q).heard l.fr l.ep l.du l.st).2, m.h⟩)] _ rfl ⟨rfl, _, _, _, rfl, hs3, hN.set hm hl'⟩
     | up l0 c t' =>
      rw [hs] at hup okm hlm
      have hup : Ct prog 22 [.pointer (some ⟨m.b, 0, none⟩)] [m.h] (fun r H' => r = .bool true ∧ H' = [m.h]) := hup
      repeat' (first | refine runS ?_ | refine WX.callQ rfl hup rfl ?_ | fail)
      obtain ⟨cb, dd, w, v, hv, seg, t, hd, eh, at_⟩ := hlm
      have hl' : IsLg ((LSt.up l0 c t').heard l.fr l.ep l.du l.st).2 m.b (LgBk m.b cb c.dc c.rg c.nd dd w true ++ (CsBk cb (c.heard l.fr l.ep l.du l.st).2 v ++ (hv ++ (WBk w dd seg t ++ hd)))) := IsLg.heard at_ l.fr l.ep l.du l.st
      have okc : CsOk c := okm.ch
      refine W.perm (H' := [LtBk b5 l, WwBk b (.slice p ns.length k) vc (.slice p3 ((ml.eraseIdx K)).length k3) vg, hw, h3, nhp (ns.take l.to.toNat), LgBk m.b cb c.dc c.rg c.nd dd w true, CsBk cb c v, hv, WBk w dd seg t, hd, nhp (ns.drop (l.to.toNat + 1)), R]) (List.Perm.of_eq (by simp [eh, LSt.c0, LSt.isUp, LSt.ch])) ?_
      refine W.mixN 8 (List.replicate 12 true) [LtBk b5 l, LgBk m.b cb c.dc c.rg c.nd dd w true] Tryz.mix (by kernel_rfl) ?_
      try refine runS ?_
      refine WX.call rfl (cheard_ct okc cb v l.fr l.ep l.du l.st) rfl ?_
      rintro _ _ ⟨rfl, rfl⟩
      simp only [ca, na]
      try refine runS ?_
      refine D.sub (H' := [WwBk b (.slice p ns.length k) vc (.slice p3 ((ml.eraseIdx K)).length k3) vg, hw, h3, nhp (ns.take l.to.toNat), LgBk m.b cb c.dc c.rg c.nd dd w true, CsBk cb (c.heard l.fr l.ep l.du l.st).2 v, hv, WBk w dd seg t, hd, nhp (ns.drop (l.to.toNat + 1)), R]) (Fsub.refl _) (Hsub.of_picks inferInstance) ?_
      refine D.perm (H' := [WwBk b (.slice p ns.length k) vc (.slice p3 ((ml.eraseIdx K)).length k3) vg, hw, h3, nhp (ns.set l.to.toNat ⟨m.b, ((LSt.up l0 c t').heard l.fr l.ep l.du l.st).2, LgBk m.b cb c.dc c.rg c.nd dd w true ++ (CsBk cb (c.heard l.fr l.ep l.du l.st).2 v ++ (hv ++ (WBk w dd seg t ++ hd)))⟩), R]) (List.Perm.of_eq (by simp [nhp_set hm])) ?_
      exact D.finE [WwBk b (.slice p ns.length k) vc (.slice p3 ((ml.eraseIdx K)).length k3) vg, hw, h3, nhp (ns.set l.to.toNat _)] _ rfl ⟨rfl, _, _, _, rfl, hs3, hN.set hm hl'⟩
   ·rw [if_neg (fun h => h.elim (fun h => by cases h) h6)]
    have hs3 := hsl
    repeat' (first | refine runS ?_ | refine al (fun _ => ?_) | refine WX.loadEW rfl hlr' hlk rfl rfl ?_ | refine sGW Lt.z.enc l.enc rfl rfl ?_ | fail)
    rename_i b5
    refine WX.as 43 (.bool (!_)) rfl (by rw [htw]) ?_
    try refine runS ?_
    refine W.quiet Tryz.mix (by kernel_rfl) ?_
    by_cases h7 : (ns.length : Int) ≤ l.to
    ·have eS : SS = ss := by rw [← hSS]; unfold comeS; rw [hK, hlk]; exact if_pos (.inr (by rw [hss]; exact h7))
     rw [eS]
     try refine runS ?_
     exact D.fin0 [WwBk b (.slice p ns.length k) vc (.slice pm (ml).length km) vg, hw, hl, nhp ns] _ rfl ⟨rfl, _, _, ns, rfl, hs3, hN⟩
    obtain ⟨m, hm⟩ : ∃ m, ns[l.to.toNat]? = some m := ⟨_, List.getElem?_eq_getElem (by omega)⟩
    have hms : ss[l.to.toNat]? = some m.s := by rw [← hN.ss, List.getElem?_map, hm]; rfl
    have eS : SS = ss.set l.to.toNat (recvL m.s l) := by rw [← hSS]; unfold comeS; rw [hK, hlk]; simp only []; rw [if_neg (show ¬ (d.k = 6 ∨ (ss.length : Int) ≤ l.to) by rw [hss]; omega), hms]
    rw [eS]
    have hlm := hN.at_ m (mem_of_getElem? hm)
    have okm := hok m.s (mem_of_getElem? hms)
    try refine runS ?_
    refine W.quiet Tryz.mix (by kernel_rfl) ?_
    try refine runS ?_
    refine W.sub (H' := [LtBk b5 l, WwBk b (.slice p ns.length k) vc (.slice pm (ml).length km) vg, hw, hl, nhp ns, R]) (Fsub.refl _) (Hsub.of_picks inferInstance) ?_
    refine W.perm (H' := [LtBk b5 l, WwBk b (.slice p ns.length k) vc (.slice pm (ml).length km) vg, hw, hl, nhp (ns.take l.to.toNat), m.h, nhp (ns.drop (l.to.toNat + 1)), R]) (List.Perm.of_eq (by simp [nhp_split hm])) ?_
    cases hfw : l.fw with
    | true =>
     have e9 : recvL m.s l = (m.s.take l.fr l.ep l.ix l.en).2 := if_pos hfw
     rw [e9]
     repeat' (first | refine runS ?_ | refine lAN (t := 43) l.enc l.en.enc rfl ?_ | fail)
     refine WX.call rfl (lgtake_ct okm hlm l.fr l.ep l.ix l.en) rfl ?_
     rintro _ _ ⟨rfl, h', rfl, hl'⟩
     simp only [ca, na]
     try refine runS ?_
     refine D.sub (H' := [WwBk b (.slice p ns.length k) vc (.slice pm (ml).length km) vg, hw, hl, nhp (ns.take l.to.toNat), h', nhp (ns.drop (l.to.toNat + 1)), R]) (Fsub.refl _) (Hsub.of_picks inferInstance) ?_
     refine D.perm (H' := [WwBk b (.slice p ns.length k) vc (.slice pm (ml).length km) vg, hw, hl, nhp (ns.set l.to.toNat ⟨m.b, (m.s.take l.fr l.ep l.ix l.en).2, h'⟩), R]) (List.Perm.of_eq (by simp [nhp_set hm])) ?_
     first | exact D.finE [WwBk b (.slice p ns.length k) vc (.slice pm (ml).length km) vg, hw, hl, nhp (ns.set l.to.toNat ⟨m.b, (m.s.take l.fr l.ep l.ix l.en).2, h'⟩)] _ rfl ⟨rfl, _, _, _, rfl, hs3, hN.set hm hl'⟩ | exact D.fin0 [WwBk b (.slice p ns.length k) vc (.slice pm (ml).length km) vg, hw, hl, nhp (ns.set l.to.toNat ⟨m.b, (m.s.take l.fr l.ep l.ix l.en).2, h'⟩)] _ rfl ⟨rfl, _, _, _, rfl, hs3, hN.set hm hl'⟩
    | false =>
     have e9 : recvL m.s l = (m.s.heard l.fr l.ep l.du l.st).2 := if_neg (by rw [hfw]; decide)
     rw [e9]
     have hup := lgup_ct hlm
     cases hs : m.s with
     | dn l0 c q =>
      rw [hs] at hup
      have hup : Ct prog 22 [.pointer (some ⟨m.b, 0, none⟩)] [m.h] (fun r H' => r = .bool false ∧ H' = [m.h]) := hup
      repeat' (first | refine runS ?_ | refine WX.callQ rfl hup rfl ?_ | fail)
      rw [hs] at hlm
      have hl' : IsLg ((LSt.dn l0 c q).heard l.fr l.ep l.du l.st).2 m.b m.h := hlm
      refine D.sub (H' := [WwBk b (.slice p ns.length k) vc (.slice pm (ml).length km) vg, hw, hl, nhp (ns.take l.to.toNat), m.h, nhp (ns.drop (l.to.toNat + 1)), R]) (Fsub.refl _) (Hsub.of_picks inferInstance) ?_
      refine D.perm (H' := [WwBk b (.slice p ns.length k) vc (.slice pm (ml).length km) vg, hw, hl, nhp (ns.set l.to.toNat ⟨m.b, ((LSt.dn l0 c q).heard l.fr l.ep l.du l.st).2, m.h⟩), R]) (List.Perm.of_eq (by simp [nhp_set hm])) ?_
      first | exact D.finE [WwBk b (.slice p ns.length k) vc (.slice pm (ml).length km) vg, hw, hl, nhp (ns.set l.to.toNat ⟨m.b, ((LSt.dn l0 c q).heard l.fr l.ep l.du l.st).2, m.h⟩)] _ rfl ⟨rfl, _, _, _, rfl, hs3, hN.set hm hl'⟩ | exact D.fin0 [WwBk b (.slice p ns.length k) vc (.slice pm (ml).length km) vg, hw, hl, nhp (ns.set l.to.toNat ⟨m.b, ((LSt.dn l0 c q).heard l.fr l.ep l.du l.st).2, m.h⟩)] _ rfl ⟨rfl, _, _, _, rfl, hs3, hN.set hm hl'⟩
     | up l0 c t' =>
      rw [hs] at hup okm hlm
      have hup : Ct prog 22 [.pointer (some ⟨m.b, 0, none⟩)] [m.h] (fun r H' => r = .bool true ∧ H' = [m.h]) := hup
      repeat' (first | refine runS ?_ | refine WX.callQ rfl hup rfl ?_ | fail)
      obtain ⟨cb, dd, w, v, hv, seg, t, hd, eh, at_⟩ := hlm
      have hl' : IsLg ((LSt.up l0 c t').heard l.fr l.ep l.du l.st).2 m.b (LgBk m.b cb c.dc c.rg c.nd dd w true ++ (CsBk cb (c.heard l.fr l.ep l.du l.st).2 v ++ (hv ++ (WBk w dd seg t ++ hd)))) := IsLg.heard at_ l.fr l.ep l.du l.st
      have okc : CsOk c := okm.ch
      refine W.perm (H' := [LtBk b5 l, WwBk b (.slice p ns.length k) vc (.slice pm (ml).length km) vg, hw, hl, nhp (ns.take l.to.toNat), LgBk m.b cb c.dc c.rg c.nd dd w true, CsBk cb c v, hv, WBk w dd seg t, hd, nhp (ns.drop (l.to.toNat + 1)), R]) (List.Perm.of_eq (by simp [eh, LSt.c0, LSt.isUp, LSt.ch])) ?_
      refine W.mixN 8 (List.replicate 12 true) [LtBk b5 l, LgBk m.b cb c.dc c.rg c.nd dd w true] Tryz.mix (by kernel_rfl) ?_
      try refine runS ?_
      refine WX.call rfl (cheard_ct okc cb v l.fr l.ep l.du l.st) rfl ?_
      rintro _ _ ⟨rfl, rfl⟩
      simp only [ca, na]
      try refine runS ?_
      refine D.sub (H' := [WwBk b (.slice p ns.length k) vc (.slice pm (ml).length km) vg, hw, hl, nhp (ns.take l.to.toNat), LgBk m.b cb c.dc c.rg c.nd dd w true, CsBk cb (c.heard l.fr l.ep l.du l.st).2 v, hv, WBk w dd seg t, hd, nhp (ns.drop (l.to.toNat + 1)), R]) (Fsub.refl _) (Hsub.of_picks inferInstance) ?_
      refine D.perm (H' := [WwBk b (.slice p ns.length k) vc (.slice pm (ml).length km) vg, hw, hl, nhp (ns.set l.to.toNat ⟨m.b, ((LSt.up l0 c t').heard l.fr l.ep l.du l.st).2, LgBk m.b cb c.dc c.rg c.nd dd w true ++ (CsBk cb (c.heard l.fr l.ep l.du l.st).2 v ++ (hv ++ (WBk w dd seg t ++ hd)))⟩), R]) (List.Perm.of_eq (by simp [nhp_set hm])) ?_
      exact D.finE [WwBk b (.slice p ns.length k) vc (.slice pm (ml).length km) vg, hw, hl, nhp (ns.set l.to.toNat _)] _ rfl ⟨rfl, _, _, _, rfl, hs3, hN.set hm hl'⟩
end
def addC (cl : List Ch) (o : Option Ch) : List Ch := match o with
 | some c => cl ++ [c]
 | none => cl
inductive StepR (d : Dd) (ss : List LSt) (cl : List Ch) (ml : List Lt) : List LSt → List Ch → List Lt → Prop
 | no : StepR d ss cl ml ss cl ml
 | put {i : Nat} {s : LSt} (h : ss[i]? = some s) (cl' op : Int) : StepR d ss cl ml (ss.set i (s.put d.key d.val false V9.z 0 cl' op).2) cl ml
 | sync {i : Nat} {s : LSt} (h : ss[i]? = some s) : StepR d ss cl ml (ss.set i s.sync) cl ml
 | send {i : Nat} {s : LSt} (h : ss[i]? = some s) (fw : Bool) : StepR d ss cl ml ss cl (sendL s i fw ml)
 | come : StepR d ss cl ml (comeS d ml ss) cl (comeM d ml)
 | drop {c : Ch} (h : cl.getLast? = some c) (k : Int) : StepR d ss cl ml ss (addC cl (dropL c k)) ml
 | add {c : Ch} (h : cl.getLast? = some c) {k : Nat} (hk : k < ss.length) : StepR d ss cl ml ss (addC cl (addL c (k : Int))) ml
 | grow {c : Ch} (h : cl.getLast? = some c) {i : Nat} {s : LSt} (hs : ss[i]? = some s) (h1 : s.isUp = true) (h2 : s.ch.ep = c.ep) (h3 : s.ch.cgt = true) : StepR d ss cl ml ss (addC cl (growL c)) ml
 | enter {i : Nat} {s : LSt} (h : ss[i]? = some s) {c : Ch} (hc : c ∈ cl) : StepR d ss cl ml (ss.set i (s.enter c.cfg).2) cl ml
 | crash {i : Nat} {s : LSt} (h : ss[i]? = some s) (k : Int) : StepR d ss cl ml (ss.set i (s.crash k)) cl ml
 | start {i : Nat} {s s' : LSt} (h : ss[i]? = some s) (hs : StartOf s s') : StepR d ss cl ml (ss.set i s') cl ml
theorem addC_cfg (cl : List Ch) (o : Option Ch) : (if o.isSome = true then cl.map (·.cfg) ++ [match o with | some c => c.cfg | none => Cfg.z] else cl.map (·.cfg)) = (addC cl o).map (·.cfg) := by
 cases o with
 | none => rfl
 | some c => simp [addC]
section
variable (b : Nat) (vn vc vm vg : Value)
def StepPost (hw : Hp) (d : Dd) (ss : List LSt) (cl : List Ch) (ml : List Lt) (H' : HH) : Prop :=
 ∃ vc' hc' vm' hl' ns' ss' cl' ml', H' = [WwBk b vn vc' vm' vg, hw, hc', hl', nhp ns'] ∧ IsSl 34 (cl'.map (·.cfg)) vc' hc' ∧ IsSl 129 ml' vm' hl' ∧ Nds ss' ns' vn hw ∧ StepR d ss cl ml ss' cl' ml'
set_option maxRecDepth 10000 in
set_option maxHeartbeats 8000000 in
theorem step_ct {ss : List LSt} {ns : List Nl} {hw : Hp} (hN : Nds ss ns vn hw) {N : Int} (hok : ∀ s ∈ ss, s.ok N) (hN1 : N + 2 < 1099511627776) {cl : List Ch} {hc : Hp} (hcs : IsSl 34 (cl.map (·.cfg)) vc hc) (hcl : cl.length ≤ 1000) {top : Ch} (htop : cl.getLast? = some top)
  (okc : ∀ c ∈ cl, ChOk c) {ml : List Lt} {hl : Hp} (hsl : IsSl 129 ml vm hl) (hll : ml.length ≤ 1000) (hto : ∀ l ∈ ml, 0 ≤ l.to) (hns : ns.length ≤ 1000) (hnp : 0 < ns.length) (hak : ∀ s ∈ ss, s.isUp = true → 0 ≤ s.ch.ak) (d : Dd)
  (hd1 : -9223372036854775808 ≤ d.n ∧ d.n ≤ 9223372036854775807) (hd2 : -9223372036854775808 ≤ d.a ∧ d.a ≤ 9223372036854775807) :
  Ct prog 34 [.pointer (some ⟨b, 0, none⟩), .agg (List.toArray d.enc)] [WwBk b vn vc vm vg, hw, hc, hl, nhp ns]
   (fun r H' => r = .tuple #[] ∧ StepPost b vn vg hw d ss cl ml H') := by
 have hlr := hsl.rs
 have hcr := hcs.rs
 have hsn := hN.rs
 obtain ⟨p, k, rfl⟩ := hsn.len
 obtain ⟨pm, km, rfl⟩ := hlr.len
 obtain ⟨pc, kc, rfl⟩ := hcr.len
 have hsn' : Rs ns (.slice p ns.length k) hw := hsn
 have hcr' : Rs (cl.map (·.cfg)) (.slice pc (cl.map (·.cfg)).length kc) hc := hcr
 have hcm : (cl.map (·.cfg)).length = cl.length := length_map _
 have hss : ss.length = ns.length := by rw [← hN.ss, length_map]
 obtain ⟨a1, a2, a3, a4⟩ := among_ok d.a (n := ns.length) hnp
 generalize hA : among d.a ns.length = A at *
 obtain ⟨m, hm⟩ : ∃ m, ns[A]? = some m := ⟨_, List.getElem?_eq_getElem a4⟩
 have hms : ss[A]? = some m.s := by rw [← hN.ss, List.getElem?_map, hm]; rfl
 have hlm := hN.at_ m (mem_of_getElem? hm)
 have okm := hok m.s (mem_of_getElem? hms)
 have okt := okc top (mem_of_getLast? htop)
 have hakm : 0 ≤ m.s.ch.ak := by
  cases hu : m.s.isUp with
  | true => exact hak m.s (mem_of_getElem? hms) hu
  | false =>
   cases hs : m.s with
   | up l c t => rw [hs] at hu; cases hu
   | dn l c q => exact Int.le_refl 0
 have hnw := newest_ct b (.slice p ns.length k) (.slice pc (cl.map (·.cfg)).length kc) (.slice pm ml.length km) vg htop hcr' (by omega)
 refine Ct.mk' func34 rfl rfl rfl (fun g R => ?_)
 try simp only [ca]
 simp only [na]
 repeat' (first | refine runS ?_ | refine bx rfl (fun _ => ?_) | fail)
 rename_i b3
 repeat' (first | refine runS ?_ | refine re ?_ | fail)
 refine WX.as 5 (.int .i64 (A : Int)) rfl (by rw [a3]) ?_
 refine WX.as 25 (.int .i64 (A : Int)) rfl (by rw [a3]) ?_
 try refine runS ?_
 by_cases k1 : d.k = 1
 ·refine W.perm (H' := [DdBk b3 d, WwBk b (.slice p ns.length k) (.slice pc (cl.map (·.cfg)).length kc) (.slice pm ml.length km) vg, hw, hc, hl, nhp (ns.take A), m.h, nhp (ns.drop (A + 1)), R]) (List.Perm.of_eq (by simp [nhp_split hm])) ?_
  repeat' (first | refine runS ?_ | refine bdZ V9.z.enc ?_ | refine WX.mask 2 4 rfl rfl (by decide) (by decide) rfl rfl ?_ | refine WX.mask 10 1024 rfl rfl (by decide) (by decide) rfl rfl ?_ | fail)
  refine WX.call rfl (lgput_ct okm hlm d.key d.val false V9.z 0 (d.b % 4) (1 + d.n % 1024)) rfl ?_
  rintro _ _ ⟨rfl, h', rfl, hl'⟩
  simp only [ca, na]
  try refine runS ?_
  refine D.sub (H' := [DdBk b3 d, WwBk b (.slice p ns.length k) (.slice pc (cl.map (·.cfg)).length kc) (.slice pm ml.length km) vg, hw, hc, hl, nhp (ns.take A), h', nhp (ns.drop (A + 1)), R]) (Fsub.refl _) (Hsub.of_picks inferInstance) ?_
  refine D.perm (H' := [DdBk b3 d, WwBk b (.slice p ns.length k) (.slice pc (cl.map (·.cfg)).length kc) (.slice pm ml.length km) vg, hw, hc, hl, nhp (ns.set A ⟨m.b, (m.s.put d.key d.val false V9.z 0 (d.b % 4) (1 + d.n % 1024)).2, h'⟩), R]) (List.Perm.of_eq (by simp [nhp_set hm])) ?_
  exact D.finE [WwBk b (.slice p ns.length k) (.slice pc (cl.map (·.cfg)).length kc) (.slice pm ml.length km) vg, hw, hc, hl, nhp (ns.set A ⟨m.b, (m.s.put d.key d.val false V9.z 0 (d.b % 4) (1 + d.n % 1024)).2, h'⟩)] _ rfl ⟨rfl, _, _, _, _, _, _, _, _, rfl, hcs, hsl, hN.set hm hl', StepR.put hms _ _⟩
 try refine runS ?_
 by_cases k2 : d.k = 2
 ·refine W.perm (H' := [DdBk b3 d, WwBk b (.slice p ns.length k) (.slice pc (cl.map (·.cfg)).length kc) (.slice pm ml.length km) vg, hw, hc, hl, nhp (ns.take A), m.h, nhp (ns.drop (A + 1)), R]) (List.Perm.of_eq (by simp [nhp_split hm])) ?_
  try refine runS ?_
  refine WX.call rfl (lgsync_ct okm hlm) rfl ?_
  rintro _ _ ⟨rfl, h', rfl, hl'⟩
  simp only [ca, na]
  try refine runS ?_
  refine D.sub (H' := [DdBk b3 d, WwBk b (.slice p ns.length k) (.slice pc (cl.map (·.cfg)).length kc) (.slice pm ml.length km) vg, hw, hc, hl, nhp (ns.take A), h', nhp (ns.drop (A + 1)), R]) (Fsub.refl _) (Hsub.of_picks inferInstance) ?_
  refine D.perm (H' := [DdBk b3 d, WwBk b (.slice p ns.length k) (.slice pc (cl.map (·.cfg)).length kc) (.slice pm ml.length km) vg, hw, hc, hl, nhp (ns.set A ⟨m.b, m.s.sync, h'⟩), R]) (List.Perm.of_eq (by simp [nhp_set hm])) ?_
  exact D.finE [WwBk b (.slice p ns.length k) (.slice pc (cl.map (·.cfg)).length kc) (.slice pm ml.length km) vg, hw, hc, hl, nhp (ns.set A ⟨m.b, m.s.sync, h'⟩)] _ rfl ⟨rfl, _, _, _, _, _, _, _, _, rfl, hcs, hsl, hN.set hm hl', StepR.sync hms⟩
 try refine runS ?_
 by_cases k3 : d.k = 3
 ·try refine runS ?_
  refine WX.call rfl (send_ct b (.slice p ns.length k) (.slice pc (cl.map (·.cfg)).length kc) (.slice pm ml.length km) vg hsn' hm hlm okm.ch hakm hsl hll true) rfl ?_
  rintro _ _ ⟨rfl, vm', hl', rfl, hs'⟩
  simp only [ca, na]
  try refine runS ?_
  exact D.finE [WwBk b (.slice p ns.length k) (.slice pc (cl.map (·.cfg)).length kc) vm' vg, hw, hc, hl', nhp ns] _ rfl ⟨rfl, _, _, _, _, _, _, _, _, rfl, hcs, hs', hN, StepR.send hms true⟩
 try refine runS ?_
 by_cases k4 : d.k = 4
 ·try refine runS ?_
  refine WX.call rfl (send_ct b (.slice p ns.length k) (.slice pc (cl.map (·.cfg)).length kc) (.slice pm ml.length km) vg hsn' hm hlm okm.ch hakm hsl hll false) rfl ?_
  rintro _ _ ⟨rfl, vm', hl', rfl, hs'⟩
  simp only [ca, na]
  try refine runS ?_
  exact D.finE [WwBk b (.slice p ns.length k) (.slice pc (cl.map (·.cfg)).length kc) vm' vg, hw, hc, hl', nhp ns] _ rfl ⟨rfl, _, _, _, _, _, _, _, _, rfl, hcs, hs', hN, StepR.send hms false⟩
 try refine runS ?_
 by_cases k5 : d.k = 5
 ·repeat' (first | refine runS ?_ | refine lAN (t := 68) d.enc d.enc rfl ?_ | fail)
  refine WX.call rfl (come_ct b (.slice p ns.length k) (.slice pc (cl.map (·.cfg)).length kc) (.slice pm ml.length km) vg hN hok (by omega) hsl hll hto d hns hd1) rfl ?_
  rintro _ _ ⟨rfl, vm', hl', ns', rfl, hs', hN'⟩
  simp only [ca, na]
  try refine runS ?_
  exact D.finE [WwBk b (.slice p ns.length k) (.slice pc (cl.map (·.cfg)).length kc) vm' vg, hw, hc, hl', nhp ns'] _ rfl ⟨rfl, _, _, _, _, _, _, _, _, rfl, hcs, hs', hN', StepR.come⟩
 try refine runS ?_
 by_cases k6 : d.k = 6
 ·repeat' (first | refine runS ?_ | refine lAN (t := 68) d.enc d.enc rfl ?_ | fail)
  refine WX.call rfl (come_ct b (.slice p ns.length k) (.slice pc (cl.map (·.cfg)).length kc) (.slice pm ml.length km) vg hN hok (by omega) hsl hll hto d hns hd1) rfl ?_
  rintro _ _ ⟨rfl, vm', hl', ns', rfl, hs', hN'⟩
  simp only [ca, na]
  try refine runS ?_
  exact D.finE [WwBk b (.slice p ns.length k) (.slice pc (cl.map (·.cfg)).length kc) vm' vg, hw, hc, hl', nhp ns'] _ rfl ⟨rfl, _, _, _, _, _, _, _, _, rfl, hcs, hs', hN', StepR.come⟩
 try refine runS ?_
 by_cases k7 : d.k = 7
 ·repeat' (first | refine runS ?_ | refine WX.callQ rfl hnw rfl ?_ | fail)
  refine WX.call rfl (drop_ct okt (A : Int)) rfl ?_
  rintro _ _ ⟨rfl, rfl⟩
  simp only [ca, na]
  try refine runS ?_
  refine WX.call rfl (turn_ct b (.slice p ns.length k) (.slice pc (cl.map (·.cfg)).length kc) (.slice pm ml.length km) vg hcs (by omega) _ _) rfl ?_
  rintro _ _ ⟨rfl, vc', hc', rfl, hs'⟩
  have hs' : IsSl 34 ((addC cl (dropL top (A : Int))).map (·.cfg)) vc' hc' := by rw [← addC_cfg]; exact hs'
  simp only [ca, na]
  try refine runS ?_
  exact D.finE [WwBk b (.slice p ns.length k) vc' (.slice pm ml.length km) vg, hw, hc', hl, nhp ns] _ rfl ⟨rfl, _, _, _, _, _, _, _, _, rfl, hs', hsl, hN, StepR.drop htop _⟩
 try refine runS ?_
 by_cases k8 : d.k = 8
 ·repeat' (first | refine runS ?_ | refine WX.callQ rfl hnw rfl ?_ | fail)
  refine WX.call rfl (with_ct okt (A : Int)) rfl ?_
  rintro _ _ ⟨rfl, rfl⟩
  simp only [ca, na]
  try refine runS ?_
  refine WX.call rfl (turn_ct b (.slice p ns.length k) (.slice pc (cl.map (·.cfg)).length kc) (.slice pm ml.length km) vg hcs (by omega) _ _) rfl ?_
  rintro _ _ ⟨rfl, vc', hc', rfl, hs'⟩
  have hs' : IsSl 34 ((addC cl (addL top (A : Int))).map (·.cfg)) vc' hc' := by rw [← addC_cfg]; exact hs'
  simp only [ca, na]
  try refine runS ?_
  exact D.finE [WwBk b (.slice p ns.length k) vc' (.slice pm ml.length km) vg, hw, hc', hl, nhp ns] _ rfl ⟨rfl, _, _, _, _, _, _, _, _, rfl, hs', hsl, hN, StepR.add htop (by omega)⟩
 try refine runS ?_
 by_cases k9 : d.k = 9
 ·try refine runS ?_
  refine WX.call rfl (grownW_ct b (.slice p ns.length k) (.slice pc (cl.map (·.cfg)).length kc) (.slice pm ml.length km) vg htop hcr' (by omega) hsn' (by omega) fun n hn => ⟨hN.at_ n hn, (hok n.s (by rw [← hN.ss]; exact mem_map.2 ⟨n, hn, rfl⟩)).ch⟩) rfl ?_
  rintro _ _ ⟨bo, rfl, rfl, hgr⟩
  simp only [ca, na]
  cases bo with
  | false =>
   try refine runS ?_
   exact D.finE [WwBk b (.slice p ns.length k) (.slice pc (cl.map (·.cfg)).length kc) (.slice pm ml.length km) vg, hw, hc, hl, nhp ns] _ rfl ⟨rfl, _, _, _, _, _, _, _, _, rfl, hcs, hsl, hN, StepR.no⟩
  | true =>
   obtain ⟨i, n, hn1, hn2, hn3, hn4⟩ := hgr rfl
   repeat' (first | refine runS ?_ | refine WX.callQ rfl hnw rfl ?_ | fail)
   refine WX.call rfl (grow_ct okt) rfl ?_
   rintro _ _ ⟨rfl, rfl⟩
   simp only [ca, na]
   try refine runS ?_
   refine WX.call rfl (turn_ct b (.slice p ns.length k) (.slice pc (cl.map (·.cfg)).length kc) (.slice pm ml.length km) vg hcs (by omega) _ _) rfl ?_
   rintro _ _ ⟨rfl, vc', hc', rfl, hs'⟩
   have hs' : IsSl 34 ((addC cl (growL top)).map (·.cfg)) vc' hc' := by rw [← addC_cfg]; exact hs'
   simp only [ca, na]
   try refine runS ?_
   exact D.finE [WwBk b (.slice p ns.length k) vc' (.slice pm ml.length km) vg, hw, hc', hl, nhp ns] _ rfl ⟨rfl, _, _, _, _, _, _, _, _, rfl, hs', hsl, hN, StepR.grow htop (i := i) (s := n.s) (by rw [← hN.ss, List.getElem?_map, hn1]; rfl) hn2 hn3 hn4⟩
 try refine runS ?_
 by_cases k10 : d.k = 10
 ·have hcp : 0 < cl.length := by
   cases cl with
   | nil => cases htop
   | cons a t => simp
  obtain ⟨b1, b2, b3', b4⟩ := among_ok d.n (n := (cl.map (·.cfg)).length) (by rw [hcm]; exact hcp)
  generalize among d.n (cl.map (·.cfg)).length = K at *
  obtain ⟨x, hx⟩ : ∃ x, cl[K]? = some x := ⟨_, List.getElem?_eq_getElem (by omega)⟩
  have hxc : (cl.map (·.cfg))[K]? = some x.cfg := by rw [List.getElem?_map, hx]; rfl
  refine W.perm (H' := [DdBk b3 d, WwBk b (.slice p ns.length k) (.slice pc (cl.map (·.cfg)).length kc) (.slice pm ml.length km) vg, hw, hc, hl, nhp (ns.take A), m.h, nhp (ns.drop (A + 1)), R]) (List.Perm.of_eq (by simp [nhp_split hm])) ?_
  try refine runS ?_
  refine W.mixT (List.replicate 15 true) [DdBk b3 d, WwBk b (.slice p ns.length k) (.slice pc (cl.map (·.cfg)).length kc) (.slice pm ml.length km) vg, hc] Tryz.mix (by kernel_rfl) ?_
  repeat' (first | refine runS ?_ | refine re ?_ | fail)
  refine WX.as 116 (.int .i64 (K : Int)) rfl (by rw [b3']) ?_
  repeat' (first | refine runS ?_ | refine WX.loadEW rfl hcr' hxc rfl rfl ?_ | fail)
  refine WX.call rfl (lgenter_ct okm hlm x.cfg) rfl ?_
  rintro _ _ ⟨rfl, h', rfl, hl'⟩
  simp only [ca, na]
  try refine runS ?_
  refine D.sub (H' := [DdBk b3 d, WwBk b (.slice p ns.length k) (.slice pc (cl.map (·.cfg)).length kc) (.slice pm ml.length km) vg, hw, hc, hl, nhp (ns.take A), h', nhp (ns.drop (A + 1)), R]) (Fsub.refl _) (Hsub.of_picks inferInstance) ?_
  refine D.perm (H' := [DdBk b3 d, WwBk b (.slice p ns.length k) (.slice pc (cl.map (·.cfg)).length kc) (.slice pm ml.length km) vg, hw, hc, hl, nhp (ns.set A ⟨m.b, (m.s.enter x.cfg).2, h'⟩), R]) (List.Perm.of_eq (by simp [nhp_set hm])) ?_
  exact D.finE [WwBk b (.slice p ns.length k) (.slice pc (cl.map (·.cfg)).length kc) (.slice pm ml.length km) vg, hw, hc, hl, nhp (ns.set A ⟨m.b, (m.s.enter x.cfg).2, h'⟩)] _ rfl ⟨rfl, _, _, _, _, _, _, _, _, rfl, hcs, hsl, hN.set hm hl', StepR.enter hms (mem_of_getElem? hx)⟩
 try refine runS ?_
 by_cases k11 : d.k = 11
 ·refine W.perm (H' := [DdBk b3 d, WwBk b (.slice p ns.length k) (.slice pc (cl.map (·.cfg)).length kc) (.slice pm ml.length km) vg, hw, hc, hl, nhp (ns.take A), m.h, nhp (ns.drop (A + 1)), R]) (List.Perm.of_eq (by simp [nhp_split hm])) ?_
  try refine runS ?_
  refine WX.call rfl (lgcrash_ct okm hlm hd1.1 hd1.2) rfl ?_
  rintro _ _ ⟨rfl, h', rfl, hl'⟩
  simp only [ca, na]
  try refine runS ?_
  refine D.sub (H' := [DdBk b3 d, WwBk b (.slice p ns.length k) (.slice pc (cl.map (·.cfg)).length kc) (.slice pm ml.length km) vg, hw, hc, hl, nhp (ns.take A), h', nhp (ns.drop (A + 1)), R]) (Fsub.refl _) (Hsub.of_picks inferInstance) ?_
  refine D.perm (H' := [DdBk b3 d, WwBk b (.slice p ns.length k) (.slice pc (cl.map (·.cfg)).length kc) (.slice pm ml.length km) vg, hw, hc, hl, nhp (ns.set A ⟨m.b, m.s.crash d.n, h'⟩), R]) (List.Perm.of_eq (by simp [nhp_set hm])) ?_
  exact D.finE [WwBk b (.slice p ns.length k) (.slice pc (cl.map (·.cfg)).length kc) (.slice pm ml.length km) vg, hw, hc, hl, nhp (ns.set A ⟨m.b, m.s.crash d.n, h'⟩)] _ rfl ⟨rfl, _, _, _, _, _, _, _, _, rfl, hcs, hsl, hN.set hm hl', StepR.crash hms d.n⟩
 try refine runS ?_
 by_cases k12 : d.k = 12
 ·refine W.perm (H' := [DdBk b3 d, WwBk b (.slice p ns.length k) (.slice pc (cl.map (·.cfg)).length kc) (.slice pm ml.length km) vg, hw, hc, hl, nhp (ns.take A), m.h, nhp (ns.drop (A + 1)), R]) (List.Perm.of_eq (by simp [nhp_split hm])) ?_
  obtain ⟨s', ok', st, hct⟩ := lgstart okm
  try refine runS ?_
  refine WX.call rfl (hct hlm) rfl ?_
  rintro _ _ ⟨rfl, h', rfl, hl'⟩
  simp only [ca, na]
  try refine runS ?_
  refine D.sub (H' := [DdBk b3 d, WwBk b (.slice p ns.length k) (.slice pc (cl.map (·.cfg)).length kc) (.slice pm ml.length km) vg, hw, hc, hl, nhp (ns.take A), h', nhp (ns.drop (A + 1)), R]) (Fsub.refl _) (Hsub.of_picks inferInstance) ?_
  refine D.perm (H' := [DdBk b3 d, WwBk b (.slice p ns.length k) (.slice pc (cl.map (·.cfg)).length kc) (.slice pm ml.length km) vg, hw, hc, hl, nhp (ns.set A ⟨m.b, s', h'⟩), R]) (List.Perm.of_eq (by simp [nhp_set hm])) ?_
  exact D.finE [WwBk b (.slice p ns.length k) (.slice pc (cl.map (·.cfg)).length kc) (.slice pm ml.length km) vg, hw, hc, hl, nhp (ns.set A ⟨m.b, s', h'⟩)] _ rfl ⟨rfl, _, _, _, _, _, _, _, _, rfl, hcs, hsl, hN.set hm hl', StepR.start hms st⟩
 try refine runS ?_
 exact D.finE [WwBk b (.slice p ns.length k) (.slice pc (cl.map (·.cfg)).length kc) (.slice pm ml.length km) vg, hw, hc, hl, nhp ns] _ rfl ⟨rfl, _, _, _, _, _, _, _, _, rfl, hcs, hsl, hN, StepR.no⟩
end
end Go.Proofs.YtejfahjgfedliaaGreat

namespace Go.Proofs.YtejfahjgfedliaaGreat
open Go Go.Sl List
def vcOf (s : LSt) : CS := match s with
 | .up _ c _ => c
 | .dn l c q => c.again ((recs l).take (keptN l q))
structure WOk (ss : List LSt) (cl : List Ch) (ml : List Lt) (gd : List Ent) (N : Int) : Prop where
 ok : ∀ s ∈ ss, s.ok N
 id : ∀ (i : Nat) s, ss[i]? = some s → s.c0.nd = (i : Int)
 ncl : (cl.length : Int) ≤ N
 nml : ml.length ≤ 201
 wi : ∃ tn top, cl.getLast? = some top ∧ WI cl.reverse tn (ss.map vcOf) ml gd top
theorem WOk.mono {ss : List LSt} {cl : List Ch} {ml : List Lt} {gd : List Ent} {N M : Int} (h : WOk ss cl ml gd N) (hm : N ≤ M) : WOk ss cl ml gd M :=
 ⟨fun s hs => (h.ok s hs).mono hm, h.id, by have := h.ncl; omega, h.nml, h.wi⟩
section
variable {ss : List LSt} {cl : List Ch} {ml : List Lt} {gd : List Ent} {N : Int} (h : WOk ss cl ml gd N)
include h
theorem WOk.node {M : Int} (hM : N ≤ M) {i : Nat} {s s' : LSt} (hi : ss[i]? = some s) (ok' : s'.ok M) (hnd : s'.c0.nd = s.c0.nd)
  (hw : ∀ {tn top}, WI cl.reverse tn (ss.map vcOf) ml gd top → (ss.map vcOf)[i]? = some (vcOf s) → ∃ tn', WI cl.reverse tn' ((ss.map vcOf).set i (vcOf s')) ml gd top) : WOk (ss.set i s') cl ml gd M := by
 obtain ⟨tn, top, h1, h2⟩ := h.wi
 obtain ⟨tn', h3⟩ := hw h2 (by rw [List.getElem?_map, hi]; rfl)
 rw [← List.map_set] at h3
 refine ⟨fun x hx => ?_, fun j x hx => ?_, by have := h.ncl; omega, h.nml, tn', top, h1, h3⟩
 ·obtain ⟨j, hj⟩ := mem_iff_getElem?.1 hx
  rw [List.getElem?_set] at hj
  split at hj
  ·split at hj
   ·cases hj; exact ok'
   ·cases hj
  ·exact (h.ok x (mem_of_getElem? hj)).mono hM
 ·rw [List.getElem?_set] at hx
  split at hx
  ·split at hx
   ·rename_i e _; subst e; cases hx; rw [hnd]; exact h.id i s hi
   ·cases hx
  ·exact h.id j x hx
theorem WOk.same {M : Int} (hM : N ≤ M) {i : Nat} {s s' : LSt} (hi : ss[i]? = some s) (ok' : s'.ok M) (hnd : s'.c0.nd = s.c0.nd) (he : vcOf s' = vcOf s) : WOk (ss.set i s') cl ml gd M :=
 h.node hM hi ok' hnd fun w hv => by rw [he]; exact w.noop hv
theorem WOk.put (hN : N < 1099511627776) {i : Nat} {s : LSt} (hi : ss[i]? = some s) (key val : ByteArray) (dead : Bool) (deps : V9) (clock cl' op : Int) : WOk (ss.set i (s.put key val dead deps clock cl' op).2) cl ml gd (N + 1) := by
 have ok' := (h.ok s (mem_of_getElem? hi)).put hN key val dead deps clock cl' op
 cases s with
 | dn l c q => exact h.same (by omega) hi ok' rfl rfl
 | up l c t =>
  refine h.node (by omega) hi ok' (id_put l c key val dead deps clock cl' op).2.2 fun w hv => ?_
  show ∃ tn', WI cl.reverse tn' ((ss.map vcOf).set i (putLS l c key val dead deps clock cl' op).2.1) ml gd _
  unfold putLS
  split
  ·exact w.putS hv key val dead deps clock cl' op
  ·exact w.noop hv
theorem WOk.sync {i : Nat} {s : LSt} (hi : ss[i]? = some s) : WOk (ss.set i s.sync) cl ml gd N := by
 have ok' := (h.ok s (mem_of_getElem? hi)).sync
 cases s with
 | dn l c q => exact h.same (Int.le_refl _) hi ok' rfl rfl
 | up l c t => exact h.node (Int.le_refl _) hi ok' (id_sync c).2.2 fun w hv => w.sync hv
theorem WOk.enter (hN : N + 2 < 1099511627776) {i : Nat} {s : LSt} (hi : ss[i]? = some s) {c' : Ch} (hc : c' ∈ cl) : WOk (ss.set i (s.enter c'.cfg).2) cl ml gd (N + 2) := by
 have ok' := (h.ok s (mem_of_getElem? hi)).enter hN c'.cfg
 cases s with
 | dn l c q => exact h.same (by omega) hi ok' rfl rfl
 | up l c t =>
  refine h.node (by omega) hi ok' (id_ent l c c'.cfg).2.2 fun w hv => ?_
  show ∃ tn', WI cl.reverse tn' ((ss.map vcOf).set i (entLS l c c'.cfg).2.1) ml gd _
  unfold entLS
  repeat' split
  all_goals first | exact w.enter hv (mem_reverse.2 hc) | exact w.noop hv
theorem WOk.start {i : Nat} {s s' : LSt} (hi : ss[i]? = some s) (hs : StartOf s s') : WOk (ss.set i s') cl ml gd N := by
 have ok' := hs.ok (h.ok s (mem_of_getElem? hi))
 cases s with
 | up l c t => cases hs; exact h.same (Int.le_refl _) hi ok' rfl rfl
 | dn l c q =>
  obtain ⟨l', t', rfl, h1, h2, h3, h4, h5, h6⟩ := hs
  refine h.same (Int.le_refl _) hi ok' (id_again c _).2.2 ?_
  show c.again (recs l') = c.again _
  rw [h5]
theorem WOk.crash {i : Nat} {s : LSt} (hi : ss[i]? = some s) (k : Int) : WOk (ss.set i (s.crash k)) cl ml gd N := by
 have ok0 := h.ok s (mem_of_getElem? hi)
 have ok' := ok0.crash k
 cases s with
 | dn l c q => exact h.same (Int.le_refl _) hi ok' rfl rfl
 | up l c t =>
  refine h.node (Int.le_refl _) hi ok' rfl fun w hv => ?_
  obtain ⟨s', -, hs, -⟩ := lgstart ok'
  obtain ⟨l', t', rfl, h1, h2, h3, h4, h5, -, h6⟩ := hs
  obtain ⟨-, e, -, -, -, -, -, hdu⟩ := LI.restart ok0 h1 h2 h3 h4 h5 h6
  have e : c.again (recs l') = CS.restore c.dc c.rg c.nd (cfO c.co) c.sn c.bs (c.lg.take (c.lg.length - ((recs l).length - keptN l k.toNat))) := e
  have ev : vcOf ((LSt.up l c t).crash k) = c.again (recs l') := by
   show c.again ((recs l).take (keptN l k.toNat)) = _
   rw [h5]
  rw [ev, e]
  exact w.again hv hdu (Nat.sub_le _ _)
theorem WOk.recv (hN : N < 1099511627776) {l : Lt} (hl : l ∈ ml) {i : Nat} {s : LSt} (hi : ss[i]? = some s) (hto : l.to = (i : Int)) : WOk (ss.set i (recvL s l)) cl ml gd (N + 1) := by
 have ok0 := h.ok s (mem_of_getElem? hi)
 have hid := h.id i s hi
 unfold recvL
 split
 ·rename_i hf
  have ok' := ok0.take hN l.fr l.ep l.ix l.en
  cases s with
  | dn l0 c q => exact h.same (by omega) hi ok' rfl rfl
  | up l0 c t =>
   refine h.node (by omega) hi ok' (id_take l0 c l.fr l.ep l.ix l.en).2.2 fun w hv => ?_
   show ∃ tn', WI cl.reverse tn' ((ss.map vcOf).set i (takeLS l0 c l.fr l.ep l.ix l.en).2.1) ml gd _
   unfold takeLS
   split
   ·exact w.takeL hv hl hf (by rw [hto]; exact hid.symm)
   ·exact w.noop hv
 ·rename_i hf
  have ok' := (ok0.heard l.fr l.ep l.du l.st).mono (M := N + 1) (by omega)
  cases s with
  | dn l0 c q => exact h.same (by omega) hi ok' rfl rfl
  | up l0 c t => exact h.node (by omega) hi ok' (id_heard c l.fr l.ep l.du l.st).2.2 fun w hv => w.heardL hv hl (by simpa using hf) (by rw [hto]; exact hid.symm)
theorem WOk.mail {ml' : List Lt} (hl : ml'.length ≤ 201) (hm : ∀ l ∈ ml', l ∈ ml ∨ ∀ {tn top}, WI cl.reverse tn (ss.map vcOf) ml gd top → LtI cl.reverse tn l) : WOk ss cl ml' gd N := by
 obtain ⟨tn, top, h1, h2⟩ := h.wi
 exact ⟨h.ok, h.id, h.ncl, hl, tn, top, h1, h2.mail fun l hl => (hm l hl).imp (fun x => x) fun f => f h2⟩
theorem WOk.come (hN : N < 1099511627776) (d : Dd) : WOk (comeS d ml ss) cl (comeM d ml) gd (N + 1) := by
 have h1 : WOk (comeS d ml ss) cl ml gd (N + 1) := by
  unfold comeS
  split
  ·exact h.mono (by omega)
  ·rename_i l hl
   split
   ·exact h.mono (by omega)
   ·rename_i hn
    split
    ·exact h.mono (by omega)
    ·rename_i s hs
     have hlm := mem_of_getElem? hl
     refine h.recv hN hlm hs ?_
     obtain ⟨tn, top, -, w⟩ := h.wi
     have := w.to_pos hlm
     omega
 refine h1.mail ?_ fun l hl => .inl ?_
 ·unfold comeM; have := h.nml; split
  ·have := length_eraseIdx_le ml (among d.n ml.length); omega
  ·exact this
 ·unfold comeM at hl; split at hl
  ·exact mem_of_mem_eraseIdx hl
  ·exact hl
theorem WOk.send {i : Nat} {s : LSt} (hi : ss[i]? = some s) (fw : Bool) : WOk ss cl (sendL s i fw ml) gd N := by
 have hnm := h.nml
 have hid := h.id i s hi
 cases s with
 | dn l c q => exact h
 | up l c t =>
  have hid : c.nd = (i : Int) := hid
  have hv : (ss.map vcOf)[i]? = some c := by rw [List.getElem?_map, hi]; rfl
  show WOk ss cl (sendC c i fw ml) gd N
  unfold sendC
  rw [← hid]
  split
  ·exact h
  ·rename_i hc
   have hlen : ml.length ≤ 200 := by omega
   split
   ·split
    ·rename_i hx
     refine h.mail (by simp; omega) fun l hl => ?_
     rcases mem_append.1 hl with hl | hl
     ·exact .inl hl
     ·right
      intro tn top w
      rw [mem_singleton.1 hl]
      obtain ⟨n, t⟩ := w.at hv
      obtain ⟨hb, h1, h2⟩ := nxt_at t.ok n.ak1.1 hx
      have hd := t.ok.du
      have hlen : c.len = (c.lg.length : Int) := rfl
      obtain ⟨e, he⟩ : ∃ e, c.lg[c.nxt.1.toNat - 1]? = some e := ⟨_, List.getElem?_eq_getElem (by omega)⟩
      rw [getD_eq_getElem?_getD, he, Option.getD_some]
      have := w.sendL hv (x := c.nxt.1.toNat - 1) (e := e) hb (by omega) he 0 0
      rw [show ((c.nxt.1.toNat - 1 : Nat) : Int) + 1 = c.nxt.1 by omega] at this
      exact this
    ·exact h
   ·split
    ·rename_i ha
     refine h.mail (by simp; omega) fun l hl => ?_
     rcases mem_append.1 hl with hl | hl
     ·exact .inl hl
     ·right
      intro tn top w
      rw [mem_singleton.1 hl]
      exact w.tellL hv ha
    ·exact h
theorem WOk.turn {top c' : Ch} (ht : cl.getLast? = some top) (hn : ∀ {tn}, WI cl.reverse tn (ss.map vcOf) ml gd top → WI (c' :: cl.reverse) tn (ss.map vcOf) ml gd c') : WOk ss (cl ++ [c']) ml gd (N + 1) := by
 obtain ⟨tn, top', h1, h2⟩ := h.wi
 rw [ht] at h1; cases h1
 exact ⟨fun s hs => (h.ok s hs).mono (by omega), h.id, by have := h.ncl; simp; omega, h.nml, tn, c', by simp, by rw [reverse_append]; exact hn h2⟩
end
end Go.Proofs.YtejfahjgfedliaaGreat

namespace Go.Proofs.YtejfahjgfedliaaGreat
open Go Go.Sl Go.Proofs.Tryz List
theorem drop_short {c c' : Ch} {n : Int} (h : dropL c n = some c') : c'.ms.length ≤ c.ms.length := by
 unfold dropL at h
 split at h
 ·cases h
 split at h
 ·cases h; exact Nat.le_refl _
 split at h
 ·cases h
 ·cases h; exact length_filter_le _ _
theorem add_short {c c' : Ch} {n : Int} (h : addL c n = some c') : c'.ms.length ≤ c.ms.length := by
 unfold addL at h
 split at h
 ·cases h
 ·cases h; exact Nat.le_refl _
theorem not_grown {c c' : Ch} (h : c'.ms.length ≤ c.ms.length) {q : Mem} (e : c'.ms = c.ms ++ [q]) : False := by
 rw [e] at h; simp at h; omega
section
variable {ss : List LSt} {cl : List Ch} {ml : List Lt} {gd : List Ent} {N : Int}
theorem WOk.step (h : WOk ss cl ml gd N) (hN : N + 2 < 1099511627776) {d : Dd} {ss' : List LSt} {cl' : List Ch} {ml' : List Lt} (st : StepR d ss cl ml ss' cl' ml') : WOk ss' cl' ml' gd (N + 2) ∧ ss'.length = ss.length := by
 cases st with
 | no => exact ⟨h.mono (by omega), rfl⟩
 | put hi cl' op => exact ⟨(h.put (by omega) hi _ _ _ _ _ _ _).mono (by omega), length_set⟩
 | sync hi => exact ⟨(h.sync hi).mono (by omega), length_set⟩
 | send hi fw => exact ⟨(h.send hi fw).mono (by omega), rfl⟩
 | come =>
  refine ⟨(h.come (by omega) d).mono (by omega), ?_⟩
  unfold comeS; repeat' split
  all_goals simp
 | @drop c hc k =>
  refine ⟨?_, rfl⟩
  cases ho : dropL c k with
  | none => exact h.mono (by omega)
  | some c' =>
   refine (h.turn hc fun {tn} w => ?_).mono (by omega)
   have okc := w.chs.ok c w.tp.1
   obtain ⟨h1, h2⟩ := nx_drop okc ho
   exact w.turn (okc.dropL ho) h2 h1 fun q _ e => (not_grown (drop_short ho) e).elim
 | @add c hc k hk =>
  refine ⟨?_, rfl⟩
  cases ho : addL c (k : Int) with
  | none => exact h.mono (by omega)
  | some c' =>
   refine (h.turn hc fun {tn} w => ?_).mono (by omega)
   have okc := w.chs.ok c w.tp.1
   obtain ⟨h1, h2⟩ := nx_add ho
   exact w.turn (okc.addL ho) h2 h1 fun q _ e => (not_grown (add_short ho) e).elim
 | @grow c hc i s hs h1 h2 h3 =>
  refine ⟨?_, rfl⟩
  cases ho : growL c with
  | none => exact h.mono (by omega)
  | some c' =>
   refine (h.turn hc fun {tn} w => ?_).mono (by omega)
   have okc := w.chs.ok c w.tp.1
   obtain ⟨g1, g2⟩ := nx_grow ho
   refine w.turn (okc.growL ho) g2 g1 fun q hq hms => ?_
   cases s with
   | dn l x q => cases h1
   | up l x t =>
    have hv : (ss.map vcOf)[i]? = some x := by rw [List.getElem?_map, hs]; rfl
    obtain ⟨n, t'⟩ := w.at hv
    obtain ⟨ch, e1, e2, e3, e4⟩ := w.chain hv
    have h2 : x.ep = c.ep := h2
    have : ch = c := w.chs.un ch e1 c w.tp.1 (by omega)
    subst this
    have h3 : x.cgt = true := h3
    unfold CS.cgt at h3
    simp only [Bool.and_eq_true, decide_eq_true_eq] at h3
    obtain ⟨⟨⟨l1, l2⟩, -⟩, l3⟩ := h3
    rw [e2] at l2
    obtain ⟨m, m1, m2⟩ := last_of e3 l1 l2
    have := n.me ch e2 m (mem_append_left _ (getLast_mem m1)) m2
    subst this
    exact ⟨i, x, hv, e2, m1, l3⟩
 | enter hi hc => exact ⟨h.enter hN hi hc, length_set⟩
 | crash hi k => exact ⟨(h.crash hi k).mono (by omega), length_set⟩
 | start hi hs => exact ⟨(h.start hi hs).mono (by omega), length_set⟩
theorem WOk.soundL (h : WOk ss cl ml gd N) {i : Nat} {s : LSt} (hi : ss[i]? = some s) : (0 ≤ s.ch.st ∧ s.ch.st ≤ s.ch.du ∧ s.ch.du ≤ s.ch.len ∧ s.ch.lg.length ≤ 256) ∧ (gd <+: s.ch.lg.take s.ch.st.toNat ∨ s.ch.lg.take s.ch.st.toNat <+: gd) ∧ (gd.length < (s.ch.lg.take s.ch.st.toNat).length → WOk ss cl ml (s.ch.lg.take s.ch.st.toNat) N) := by
 cases s with
 | dn l c q => exact ⟨⟨Int.le_refl _, Int.le_refl _, Int.le_refl _, Nat.zero_le _⟩, .inr nil_prefix, fun h => (by simp [LSt.ch, CS.new] at h)⟩
 | up l c t =>
  obtain ⟨tn, top, h1, w⟩ := h.wi
  have hv : (ss.map vcOf)[i]? = some c := by rw [List.getElem?_map, hi]; rfl
  obtain ⟨n, t'⟩ := w.at hv
  obtain ⟨w1, w2⟩ := w.sound hv
  exact ⟨⟨n.st1.1, n.st1.2, t'.ok.du.2, t'.ok.len⟩, w1, fun _ => ⟨h.ok, h.id, h.ncl, h.nml, tn, top, h1, w2⟩⟩
end
section
variable (b : Nat) (vn vc vm vg : Value)
set_option maxRecDepth 10000 in
set_option maxHeartbeats 2000000 in
theorem sound_ct {ss : List LSt} {ns : List Nl} {hw : Hp} (hN : Nds ss ns vn hw) (hns : ns.length ≤ 1000) {cl : List Ch} {ml : List Lt} {gd : List Ent} {N : Int} (h : WOk ss cl ml gd N) {hg : Hp} (hgs : IsSl 43 gd vg hg) (hgl : gd.length ≤ 256) :
  Ct prog 35 [.pointer (some ⟨b, 0, none⟩)] [WwBk b vn vc vm vg, hw, nhp ns, hg]
   (fun r H' => r = .bool true ∧ ∃ vg' hg' gd', H' = [WwBk b vn vc vm vg', hw, nhp ns, hg'] ∧ IsSl 43 gd' vg' hg' ∧ gd'.length ≤ 256 ∧ WOk ss cl ml gd' N) := by
 have hsn := hN.rs
 obtain ⟨p, k, rfl⟩ := hsn.len
 have hsn' : Rs ns (.slice p ns.length k) hw := hsn
 have hss : ss.length = ns.length := by rw [← hN.ss, length_map]
 refine Ct.mk' func35 rfl rfl rfl (fun g R => ?_)
 try simp only [ca]
 simp only [na]
 try refine runS ?_
 refine W.loop (α := Nat × List Ent × Value × Hp) (fun x => x.1 ≤ ns.length ∧ x.2.1.length ≤ 256 ∧ IsSl 43 x.2.1 x.2.2.1 x.2.2.2 ∧ WOk ss cl ml x.2.1 N) (fun x => [(0, .pointer (some ⟨b, 0, none⟩)), (3, .int .i64 (x.1 : Int))]) (fun x => [WwBk b (.slice p ns.length k) vc vm x.2.2.1, hw, nhp ns, x.2.2.2, R]) (fun x => ns.length - x.1)
  (0, gd, vg, hg) ⟨Nat.zero_le _, hgl, hgs, h⟩ (by repeat (first | exact Fsub.nil | refine Fsub.cons rfl ?_)) (Hsub.of_picks inferInstance) ?_
 clear h hgs hgl
 rintro ⟨i, gd, vg, hg⟩ ⟨hi, hgl, hgs, h⟩
 simp only [] at hi hgl hgs h ⊢
 have hgr := hgs.rs
 obtain ⟨pg, kg, rfl⟩ := hgr.len
 by_cases hlt : i < ns.length
 ·obtain ⟨m, hm⟩ : ∃ m, ns[i]? = some m := ⟨_, List.getElem?_eq_getElem hlt⟩
  have hms : ss[i]? = some m.s := by rw [← hN.ss, List.getElem?_map, hm]; rfl
  obtain ⟨⟨q1, q2, q3, q4⟩, hpre, hnew⟩ := h.soundL hms
  obtain ⟨cb, d, w, v, hv, seg, t, hd, eh, at_⟩ := hN.at_ m (mem_of_getElem? hm)
  have hlen : m.s.ch.len = (m.s.ch.lg.length : Int) := rfl
  have hlo := clog_ct m.s.ch cb at_.sl.rs (by omega)
  have hst := cstab_ct m.s.ch cb v
  refine W.perm (H' := [WwBk b (.slice p ns.length k) vc vm (.slice pg gd.length kg), hw, hg, nhp (ns.take i), LgBk m.b cb m.s.c0.dc m.s.c0.rg m.s.c0.nd d w m.s.isUp, CsBk cb m.s.ch v, hv, WBk w d seg t, hd, nhp (ns.drop (i + 1)), R]) ?_ ?_
  ·refine List.Perm.trans (List.Perm.flatten (List.Perm.cons _ (List.Perm.cons _ (List.Perm.swap _ _ _)))) (List.Perm.of_eq (by simp [nhp_split hm, eh]))
  generalize m.s.ch = c at *
  try refine runS ?_
  refine W.mixN 8 [true, true, true, true, false, true, true, true, true, false] [WwBk b (.slice p ns.length k) vc vm (.slice pg gd.length kg), LgBk m.b cb m.s.c0.dc m.s.c0.rg m.s.c0.nd d w m.s.isUp, CsBk cb c v, hv] Tryz.mix (by kernel_rfl) ?_
  try refine runS ?_
  refine WX.call rfl hlo rfl ?_
  rintro vL _ ⟨hL, hsL, rfl⟩
  simp only [ca, na]
  repeat' (first | refine runS ?_ | refine WX.callQ rfl hst rfl ?_ | fail)
  have hsr := hsL.rs
  obtain ⟨pL, kL, rfl⟩ := hsr.len
  have hX : Rs (c.lg.take c.st.toNat) (.slice pL c.st.toNat kL) hL := hsr.take (by omega)
  have hXl : (c.lg.take c.st.toNat).length = c.st.toNat := by rw [length_take]; omega
  refine WX.as 31 (.int .i64 (c.st.toNat : Int)) rfl (by congr 1; omega) ?_
  have hK : c.st.toNat ≤ c.lg.length := by omega
  obtain ⟨K, hKK⟩ : ∃ K, c.st.toNat = K := ⟨_, rfl⟩
  obtain ⟨X, hXX⟩ : ∃ X, c.lg.take c.st.toNat = X := ⟨_, rfl⟩
  rw [hXX] at hX hXl hpre hnew
  rw [hKK] at hX hXl hK ⊢
  have hbk : ∀ {n L Q e vg' hg'}, D g Q e n L [WwBk b (.slice p ns.length k) vc vm vg', hw, nhp ns, hg', R] → D g Q e n L [WwBk b (.slice p ns.length k) vc vm vg', hw, hg', nhp (ns.take i), LgBk m.b cb m.s.c0.dc m.s.c0.rg m.s.c0.nd d w m.s.isUp, CsBk cb c v, hv, WBk w d seg t, hd, nhp (ns.drop (i + 1)), R] :=
   fun h => D.perm (List.Perm.trans (List.Perm.of_eq (by simp [nhp_split hm, eh])) (List.Perm.flatten (List.Perm.cons _ (List.Perm.cons _ (List.Perm.swap _ _ _))))) h
  by_cases hlt2 : gd.length < K
  ·have hp1 : gd = X.take gd.length := by
    rcases hpre with h1 | h1
    ·exact (prefix_iff_eq_take.1 h1)
    ·have := h1.length_le; omega
   have hpc := prefix_ct hgr hX hp1 (by omega)
   repeat' (first | refine runS ?_ | refine WX.callQ rfl hpc rfl ?_ | fail)
   refine I.bs ?_
   refine WX.lit (ys := ([] : List Ent)) (vs := []) rfl rfl rfl rfl rfl rfl (by decide) rfl (fun v1 h1 hs1 => ?_)
   try refine runS ?_
   refine WX.app rfl rfl hs1 hX rfl rfl (by decide) (by simp only [length_nil]; omega) rfl (fun v2 h2 hs2 => ?_)
   rw [nil_append] at hs2
   obtain ⟨p2, k2, e2⟩ := hs2.rs.len
   subst e2
   try refine run ?_
   refine D.sub (H' := [WwBk b (.slice p ns.length k) vc vm (.slice p2 X.length k2), hw, h2, nhp (ns.take i), LgBk m.b cb m.s.c0.dc m.s.c0.rg m.s.c0.nd d w m.s.isUp, CsBk cb c v, hv, WBk w d seg t, hd, nhp (ns.drop (i + 1)), R]) (Fsub.refl _) (Hsub.of_picks inferInstance) ?_
   refine hbk ?_
   exact D.rd (i + 1, X, .slice p2 X.length k2, h2) ⟨by simp only []; omega, by simp only []; omega, hs2, hnew (by omega)⟩ (by simp only []; omega)
  ·have hp1 : X = gd.take X.length := by
    rcases hpre with h1 | h1
    ·have : gd = X := h1.eq_of_length (by have := h1.length_le; omega)
     rw [this, take_length]
    ·exact (prefix_iff_eq_take.1 h1)
   have hX' : Rs X (.slice pL X.length kL) hL := by rw [hXl]; exact hX
   have hpc := prefix_ct hX' hgr hp1 (by omega)
   rw [hXl] at hpc
   repeat' (first | refine runS ?_ | refine WX.callQ rfl hpc rfl ?_ | fail)
   refine D.sub (H' := [WwBk b (.slice p ns.length k) vc vm (.slice pg gd.length kg), hw, hg, nhp (ns.take i), LgBk m.b cb m.s.c0.dc m.s.c0.rg m.s.c0.nd d w m.s.isUp, CsBk cb c v, hv, WBk w d seg t, hd, nhp (ns.drop (i + 1)), R]) (Fsub.refl _) (Hsub.of_picks inferInstance) ?_
   refine hbk ?_
   exact D.rd (i + 1, gd, .slice pg gd.length kg, hg) ⟨by simp only []; omega, hgl, hgs, h⟩ (by simp only []; omega)
 ·obtain rfl : i = ns.length := by omega
  try refine runS ?_
  exact D.fin1 [WwBk b (.slice p ns.length k) vc vm (.slice pg gd.length kg), hw, nhp ns, hg] _ rfl rfl ⟨rfl, _, _, gd, rfl, hgs, hgl, h⟩
end
def fstC (n : Nat) (j : Int) : CS := ⟨0, 0, j, some (firstCh n), 1, 0, [], 0, 0, 0, 0, true⟩
def fstS (n : Nat) (j : Int) : LSt := ((LSt.up [] (CS.new 0 0 j) 0).enter (firstCh n).cfg).2
theorem fst_mem {n : Nat} {m : Mem} : m ∈ (firstCh n).all ↔ m.sn = 1 ∧ 0 ≤ m.nd ∧ m.nd < n := by
 unfold Ch.all firstCh
 simp only [Option.toList_none, append_nil, mem_map, mem_range]
 constructor
 ·rintro ⟨i, hi, rfl⟩
  exact ⟨rfl, Int.natCast_nonneg _, by show (i : Int) < n; omega⟩
 ·rintro ⟨h1, h2, h3⟩
  refine ⟨m.nd.toNat, by omega, ?_⟩
  obtain ⟨a, b⟩ := m
  simp only [] at h1 h2 h3 ⊢
  rw [h1, Int.toNat_of_nonneg h2]
theorem fst_enter {n : Nat} (h1 : 1 ≤ n) (h4 : n ≤ 4) {j : Int} (hj : 0 ≤ j ∧ j < n) : (CS.new 0 0 j).enter (firstCh n).cfg = ((true, 0), fstC n j) := by
 have ok := first_ok h1 h4
 have hcf : chOf (firstCh n).cfg = firstCh n := chOf_cfg (by have := ok.l4; omega)
 have hm : (⟨j, 1⟩ : Mem) ∈ (firstCh n).all := fst_mem.2 ⟨rfl, hj.1, hj.2⟩
 have hs : sinceO (some (firstCh n)) j = 1 := since_of ok hm
 have e0 : (CS.new 0 0 j).enter0 (firstCh n).cfg = fstC n j := by
  unfold CS.enter0
  rw [hcf, show (CS.new 0 0 j).nd = j from rfl, hs, if_pos ⟨show (1 : Int) ≠ 0 by decide, show (1 : Int) ≠ 0 by decide⟩]
  rfl
 have e1 : (CS.new 0 0 j).resets (firstCh n).cfg = true := by
  unfold CS.resets
  rw [hcf, show (CS.new 0 0 j).nd = j from rfl, hs]
  rfl
 have e2 : (fstC n j).settle = fstC n j := by
  unfold CS.settle
  split
  ·rw [if_pos (show (cfO (fstC n j).co).jo = false from rfl)]; rfl
  ·rfl
 unfold CS.enter
 rw [if_neg (not_not_intro (rightC_of ok)), if_neg (show ¬ (firstCh n).cfg.ep ≤ (cfO (CS.new 0 0 j).co).ep from (show ¬ (1 : Int) ≤ 0 by decide)), e0, e1, e2]
theorem fst_up {n : Nat} (h1 : 1 ≤ n) (h4 : n ≤ 4) {j : Int} (hj : 0 ≤ j ∧ j < n) : ∃ l, fstS n j = .up l (fstC n j) 0 := by
 have hr : roomB [] 2 = true := by decide
 unfold fstS
 show ∃ l, LSt.up (entLS [] (CS.new 0 0 j) (firstCh n).cfg).2.2 (entLS [] (CS.new 0 0 j) (firstCh n).cfg).2.1 0 = _
 unfold entLS
 rw [if_pos hr, fst_enter h1 h4 hj, if_pos rfl]
 exact ⟨_, rfl⟩
theorem fst_ok {n : Nat} (j : Int) : (fstS n j).ok 2 := by
 have : (LSt.up [] (CS.new 0 0 j) 0).ok 0 := LI.nil 0 0 j
 exact this.enter (by decide) _
theorem WOk.first {n : Nat} (h1 : 1 ≤ n) (h4 : n ≤ 4) {ss : List LSt} (hl : ss.length = n) (hs : ∀ (i : Nat) s, ss[i]? = some s → s = fstS n (i : Int)) : WOk ss [firstCh n] [] [] 2 := by
 have ok := first_ok h1 h4
 have hv : ∀ (i : Nat) s, ss[i]? = some s → i < n ∧ vcOf s = fstC n (i : Int) ∧ s.c0 = fstC n (i : Int) := fun i s h => by
  have hi : i < n := by rw [← hl]; exact (List.getElem?_eq_some_iff.1 h).1
  obtain ⟨l, e⟩ := fst_up h1 h4 (j := (i : Int)) ⟨by omega, by omega⟩
  rw [hs i s h, e]; exact ⟨hi, rfl, rfl⟩
 have hvs : ∀ (i : Nat) c, (ss.map vcOf)[i]? = some c → i < n ∧ c = fstC n (i : Int) := fun i c h => by
  rw [List.getElem?_map] at h
  cases hx : ss[i]? with
  | none => rw [hx] at h; cases h
  | some s => rw [hx] at h; cases h; exact ⟨(hv i s hx).1, (hv i s hx).2.1⟩
 refine ⟨fun s h => ?_, fun i s h => by rw [(hv i s h).2.2]; rfl, (show (1 : Int) ≤ 2 by decide), Nat.zero_le _, fun m => if m.sn = 1 ∧ 0 ≤ m.nd ∧ m.nd < n then some (fstC n m.nd) else none, firstCh n, rfl, ?_⟩
 ·obtain ⟨i, hi⟩ := mem_iff_getElem?.1 h
  rw [hs i s hi]; exact fst_ok _
 ·have hin : ∀ {d : Ch}, d ∈ [firstCh n].reverse → d = firstCh n := fun h => by simpa using h
  have hmem : firstCh n ∈ [firstCh n].reverse := by simp
  refine ⟨⟨fun c h => by rw [hin h]; exact ok, fun c h c' h' _ => by rw [hin h, hin h'], fun c h h1 => by rw [hin h] at h1; exact absurd h1 (show ¬ (1 : Int) < 1 by decide)⟩, ⟨hmem, fun d h => by rw [hin h]; exact Int.le_refl _⟩, fun m c h => ?_, fun c h => ?_, fun m c h => ?_, ?_, fun c h c' h' he => ?_, fun l h => (nomatch h), ⟨1, Int.le_refl _, Pot.nil⟩⟩
  ·split at h
   ·rename_i hm
    cases h
    refine ⟨⟨ChO.some ok, ⟨Int.le_refl _, Int.le_refl _⟩, ⟨Int.le_refl _, Int.le_refl _⟩, Nat.zero_le _, fun e he => (nomatch he)⟩, ?_, ⟨_, hmem, rfl⟩, ⟨_, hmem, fst_mem.2 hm, Int.le_refl _⟩, Good.nil⟩
    obtain ⟨a, b⟩ := m
    simp only [] at hm
    unfold CS.me fstC
    rw [hm.1]
   ·cases h
  ·obtain ⟨i, hi⟩ := mem_iff_getElem?.1 h
   obtain ⟨hin, rfl⟩ := hvs i c hi
   refine ⟨if_pos ⟨rfl, Int.natCast_nonneg _, by show (i : Int) < n; omega⟩, fun ch hc q hq => hold.nil, Pot.nil, fun ch hc h2 h3 => Pot.nil, fun ch hc m hm hmn => ?_, ⟨Int.le_refl _, Int.le_refl _⟩, ⟨Int.le_refl _, Int.le_refl _⟩, Int.le_refl _⟩
   cases hc
   have := fst_mem.1 hm
   obtain ⟨a, b⟩ := m
   simp only [] at hmn this
   unfold CS.me
   rw [← hmn, this.1]; rfl
  ·split at h
   ·rename_i hm
    have hx : m.nd.toNat < ss.length := by omega
    refine ⟨vcOf ss[m.nd.toNat], mem_map.2 ⟨_, getElem_mem hx, rfl⟩, ?_⟩
    rw [(hv m.nd.toNat _ (List.getElem?_eq_getElem hx)).2.1]
    exact ⟨by show ((m.nd.toNat : Nat) : Int) = m.nd; omega, by show m.sn ≤ 1; omega⟩
   ·cases h
  ·rw [pairwise_iff_getElem]
   intro i j hi hj hlt
   simp only [getElem_map]
   have e1 := (hvs i _ (List.getElem?_eq_getElem (by simpa using hi))).2
   have e2 := (hvs j _ (List.getElem?_eq_getElem (by simpa using hj))).2
   simp only [getElem_map] at e1 e2
   rw [e1, e2]
   show (i : Int) ≠ (j : Int)
   omega
  ·rw [hin h, hin h'] at he
   omega
structure WMem (ss : List LSt) (cl : List Ch) (ml : List Lt) (gd : List Ent) (b : Nat) (vn vc vm vg : Value) (hw hc hl hg : Hp) (ns : List Nl) : Prop where
 n : Nds ss ns vn hw
 c : IsSl 34 (cl.map (·.cfg)) vc hc
 m : IsSl 129 ml vm hl
 g : IsSl 43 gd vg hg
 gl : gd.length ≤ 256
set_option maxRecDepth 10000 in
set_option maxHeartbeats 2000000 in
theorem started_ct {n : Nat} (h1 : 1 ≤ n) (h4 : n ≤ 4) :
  Ct prog 33 [.int .i64 (n : Int)] [] (fun r H' => ∃ b vn vc vm vg hw hc hl hg ns ss, r = .pointer (some ⟨b, 0, none⟩) ∧ H' = [WwBk b vn vc vm vg, hw, hc, hl, hg, nhp ns] ∧ WMem ss [firstCh n] [] [] b vn vc vm vg hw hc hl hg ns ∧ WOk ss [firstCh n] [] [] 2 ∧ ss.length = n ∧ ∀ (i : Nat) s, ss[i]? = some s → s = fstS n (i : Int)) := by
 have hfc := first_ct h1 h4
 refine Ct.mk' func33 rfl rfl rfl (fun g R => ?_)
 try simp only [ca]
 simp only [na]
 repeat' (first | refine runS ?_ | refine bx rfl (fun _ => ?_) | refine al (fun _ => ?_) | refine bdN [.slice none 0 0, .slice none 0 0, .slice none 0 0, .slice none 0 0] ?_ | refine WX.callQ rfl hfc rfl ?_ | refine sGW Cfg.z.enc (firstCh n).cfg.enc rfl rfl ?_ | fail)
 rename_i b b4
 have n0 : IsSl 34 ([] : List Cfg) (.slice none 0 0) [] := IsSl.nil _
 refine W.flat (H' := [CfBk b4 (firstCh n).cfg, WwBk b (.slice none 0 0) (.slice none 0 0) (.slice none 0 0) (.slice none 0 0), [], [], [], [], R]) (by simp) ?_
 refine W.mixN 8 [true, true, true, true, true, true, false, false] [WwBk b (.slice none 0 0) (.slice none 0 0) (.slice none 0 0) (.slice none 0 0), CfBk b4 (firstCh n).cfg] Tryz.mix (by kernel_rfl) ?_
 repeat' (first | refine runS ?_ | refine lAN (t := 34) (firstCh n).cfg.enc (firstCh n).cfg.enc rfl ?_ | fail)
 refine I.bs ?_
 refine WX.lit (ys := [(firstCh n).cfg]) rfl rfl rfl rfl rfl rfl (by decide) rfl (fun v2 h2 hs2 => ?_)
 try refine runS ?_
 refine WX.app rfl rfl n0 hs2.rs rfl rfl (by decide) (by simp only [length_cons, length_nil]; omega) rfl (fun v3 h3 hs3 => ?_)
 rw [nil_append] at hs3
 obtain ⟨p3, k3, e3⟩ := hs3.rs.len
 subst e3
 try refine run ?_
 refine W.loop (α := Nat × List Nl × Value × Hp) (fun x => x.1 ≤ n ∧ x.2.1.length = x.1 ∧ IsSl 25 x.2.1 x.2.2.1 x.2.2.2 ∧ ∀ (j : Nat) m, x.2.1[j]? = some m → m.s = fstS n (j : Int) ∧ IsLg m.s m.b m.h) (fun x => [(0, .int .i64 (n : Int)), (3, .pointer (some ⟨b, 0, none⟩)), (4, .pointer (some ⟨b4, 0, none⟩)), (6, .int .i64 (x.1 : Int))])
  (fun x => [WwBk b x.2.2.1 (.slice p3 [(firstCh n).cfg].length k3) (.slice none 0 0) (.slice none 0 0), CfBk b4 (firstCh n).cfg, h3, x.2.2.2, nhp x.2.1, [], [], R]) (fun x => n - x.1) (0, [], .slice none 0 0, []) ⟨Nat.zero_le _, rfl, IsSl.nil _, fun j m h => by simp at h⟩ (by repeat (first | exact Fsub.nil | refine Fsub.cons rfl ?_)) (show Hsub _ [WwBk b (.slice none 0 0) (.slice p3 [(firstCh n).cfg].length k3) (.slice none 0 0) (.slice none 0 0), CfBk b4 (firstCh n).cfg, h3, [], [], [], [], R] from (Hsub.of_picks inferInstance)) ?_
 rintro ⟨i, ns, vn, hw⟩ ⟨hi, hnl, hsn, hat⟩
 simp only [] at hi hnl hsn hat ⊢
 obtain ⟨pn, kn, en⟩ := hsn.rs.len
 subst en
 by_cases hlt : i < n
 ·try refine runS ?_
  refine WX.call rfl (lgnew_ct 0 0 (i : Int)) rfl ?_
  rintro _ _ ⟨bl, hl, rfl, rfl, hlg⟩
  simp only [ca, na]
  have okn : (LSt.up [] (CS.new 0 0 (i : Int)) 0).ok 0 := LI.nil 0 0 i
  repeat' (first | refine runS ?_ | refine lAN (t := 34) (firstCh n).cfg.enc (firstCh n).cfg.enc rfl ?_ | fail)
  refine WX.call rfl (lgenter_ct okn hlg (firstCh n).cfg) rfl ?_
  rintro _ _ ⟨rfl, h', rfl, hl'⟩
  have hl' : IsLg (fstS n (i : Int)) bl h' := hl'
  simp only [ca, na]
  try refine runS ?_
  refine I.bs ?_
  refine WX.lit (ys := [(⟨bl, fstS n (i : Int), h'⟩ : Nl)]) rfl rfl rfl rfl rfl rfl (by decide) rfl (fun v4 h4' hs4 => ?_)
  skip
  refine WX.app rfl rfl hsn hs4.rs rfl rfl (by decide) (by simp only [length_cons, length_nil]; omega) rfl (fun v5 h5 hs5 => ?_)
  obtain ⟨p5, k5, e5⟩ := hs5.rs.len
  subst e5
  try refine run ?_
  refine D.sub (H' := [WwBk b (.slice p5 (ns ++ [(⟨bl, fstS n (i : Int), h'⟩ : Nl)]).length k5) (.slice p3 [(firstCh n).cfg].length k3) (.slice none 0 0) (.slice none 0 0), CfBk b4 (firstCh n).cfg, h3, h5, nhp ns, h', [], [], R]) (Fsub.refl _) (Hsub.of_picks inferInstance) ?_
  refine D.perm (H' := [WwBk b (.slice p5 (ns ++ [(⟨bl, fstS n (i : Int), h'⟩ : Nl)]).length k5) (.slice p3 [(firstCh n).cfg].length k3) (.slice none 0 0) (.slice none 0 0), CfBk b4 (firstCh n).cfg, h3, h5, nhp (ns ++ [(⟨bl, fstS n (i : Int), h'⟩ : Nl)]), [], [], R]) (List.Perm.of_eq (by simp [nhp])) ?_
  refine D.rd (i + 1, ns ++ [(⟨bl, fstS n (i : Int), h'⟩ : Nl)], .slice p5 (ns ++ [(⟨bl, fstS n (i : Int), h'⟩ : Nl)]).length k5, h5) ⟨by simp only []; omega, by simp [hnl], hs5, fun j m hj => ?_⟩ (by simp only []; omega)
  simp only [List.getElem?_append] at hj
  split at hj
  ·exact hat j m hj
  ·rename_i hj2
   have : j = ns.length := by
    have := (List.getElem?_eq_some_iff.1 hj).1
    simp at this; omega
   subst this
   rw [Nat.sub_self] at hj
   cases hj
   rw [hnl]
   exact ⟨rfl, hl'⟩
 ·obtain rfl : i = n := by omega
  try refine runS ?_
  refine D.fin1 [WwBk b (.slice pn ns.length kn) (.slice p3 [(firstCh i).cfg].length k3) (.slice none 0 0) (.slice none 0 0), hw, h3, [], [], nhp ns] _ rfl rfl ?_
  have hfs : ∀ (j : Nat) s, (ns.map (·.s))[j]? = some s → s = fstS i (j : Int) := fun j s hj => by
   rw [List.getElem?_map] at hj
   cases hx : ns[j]? with
   | none => rw [hx] at hj; cases hj
   | some x => rw [hx] at hj; cases hj; exact (hat j x hx).1
  exact ⟨b, _, _, _, _, hw, h3, [], [], ns, ns.map (·.s), rfl, rfl, ⟨⟨rfl, hsn.rs, fun x hx => by
   obtain ⟨j, hj⟩ := mem_iff_getElem?.1 hx
   exact (hat j x hj).2⟩, hs3, IsSl.nil _, IsSl.nil _, Nat.zero_le _⟩, WOk.first h1 h4 (by rw [length_map, hnl]) hfs, by rw [length_map, hnl], hfs⟩
structure WSt where
 ss : List LSt
 cl : List Ch
 ml : List Lt
 gd : List Ent
 (vn vc vm vg : Value)
 (hw hc hl hg : Hp)
 ns : List Nl
structure WSt.ok (x : WSt) (b : Nat) (n : Nat) (N : Int) : Prop where
 m : WMem x.ss x.cl x.ml x.gd b x.vn x.vc x.vm x.vg x.hw x.hc x.hl x.hg x.ns
 w : WOk x.ss x.cl x.ml x.gd N
 n : x.ss.length = n
abbrev WSt.hh (x : WSt) (b : Nat) : HH := [WwBk b x.vn x.vc x.vm x.vg, x.hw, x.hc, x.hl, x.hg, nhp x.ns]
def DdOk (d : Dd) : Prop := (-9223372036854775808 ≤ d.n ∧ d.n ≤ 9223372036854775807) ∧ (-9223372036854775808 ≤ d.a ∧ d.a ≤ 9223372036854775807)
section
variable {x : WSt} {b n : Nat} {N : Int} (h : x.ok b n N) (h1 : 1 ≤ n) (h4 : n ≤ 4)
include h
theorem WSt.ok.ns : x.ns.length = n := by rw [← h.n, ← h.m.n.ss, length_map]
theorem WSt.ok.ak : ∀ s ∈ x.ss, s.isUp = true → 0 ≤ s.ch.ak := by
 intro s hs hu
 obtain ⟨i, hi⟩ := mem_iff_getElem?.1 hs
 cases s with
 | dn l c q => cases hu
 | up l c t =>
  obtain ⟨tn, top, -, w⟩ := h.w.wi
  exact (w.at (i := i) (c := c) (by rw [List.getElem?_map, hi]; rfl)).1.ak1.1
theorem WSt.ok.top : ∃ top, x.cl.getLast? = some top ∧ (∀ c ∈ x.cl, ChOk c) ∧ ∀ l ∈ x.ml, 0 ≤ l.to := by
 obtain ⟨tn, top, e, w⟩ := h.w.wi
 exact ⟨top, e, fun c hc => w.chs.ok c (mem_reverse.2 hc), fun l hl => w.to_pos hl⟩
include h1 h4
theorem stepX_ct (hN : N ≤ 900) (d : Dd) (hd : DdOk d) : Ct prog 34 [.pointer (some ⟨b, 0, none⟩), .agg (List.toArray d.enc)] (x.hh b)
   (fun r H' => r = .tuple #[] ∧ ∃ x' : WSt, H' = x'.hh b ∧ x'.ok b n (N + 2) ∧ StepR d x.ss x.cl x.ml x'.ss x'.cl x'.ml) := by
 obtain ⟨top, ht, okc, hto⟩ := h.top
 have hns := h.ns
 have hncl := h.w.ncl
 have hnml := h.w.nml
 have hst := step_ct b x.vn x.vc x.vm x.vg h.m.n h.w.ok (by omega) h.m.c (by omega) ht okc h.m.m (by omega) hto (by omega) (by omega) h.ak d hd.1 hd.2
 have hf := hst.frame (F := [x.hg]) (post' := fun r H' => r = .tuple #[] ∧ ∃ H1, StepPost b x.vn x.vg x.hw d x.ss x.cl x.ml H1 ∧ H' = H1 ++ [x.hg]) (fun r H' ⟨e, p⟩ => ⟨e, H', p, rfl⟩)
 refine (hf.perm (pre' := x.hh b) ?_).packP rfl ?_
 ·refine List.Perm.flatten ?_
  exact (List.Perm.cons _ (List.Perm.cons _ (List.Perm.cons _ (List.Perm.cons _ (List.Perm.swap _ _ _)))))
 ·rintro r H' ⟨rfl, H1, ⟨vc', hc', vm', hl', ns', ss', cl', ml', rfl, hcs, hls, hN', st⟩, rfl⟩
  obtain ⟨w', hlen⟩ := h.w.step (by omega) st
  exact ⟨(⟨ss', cl', ml', x.gd, x.vn, vc', vm', x.vg, x.hw, hc', hl', x.hg, ns'⟩ : WSt).hh b, [], (by rw [append_nil]; exact List.Perm.flatten (List.Perm.cons _ (List.Perm.cons _ (List.Perm.cons _ (List.Perm.cons _ (List.Perm.swap _ _ _)))))), rfl, _, rfl, ⟨⟨hN', hcs, hls, h.m.g, h.m.gl⟩, w', by rw [← h.n]; exact hlen⟩, st⟩
theorem soundX_ct : Ct prog 35 [.pointer (some ⟨b, 0, none⟩)] (x.hh b) (fun r H' => r = .bool true ∧ ∃ x' : WSt, H' = x'.hh b ∧ x'.ok b n N) := by
 have hns := h.ns
 have hso := sound_ct b x.vn x.vc x.vm x.vg h.m.n (by omega) h.w h.m.g h.m.gl
 have hf := hso.frame (F := [x.hc, x.hl]) (post' := fun r H' => r = .bool true ∧ ∃ vg' hg' gd', H' = [WwBk b x.vn x.vc x.vm vg', x.hw, nhp x.ns, hg', x.hc, x.hl] ∧ IsSl 43 gd' vg' hg' ∧ gd'.length ≤ 256 ∧ WOk x.ss x.cl x.ml gd' N) (fun r H' ⟨e, vg', hg', gd', e2, p⟩ => ⟨e, vg', hg', gd', by rw [e2]; rfl, p⟩)
 have hp : ∀ {A B C D E F : Hp}, [A, B, C, D, E, F].Perm [A, B, F, E, C, D] := fun {A B C D E F} =>
  List.Perm.cons _ (List.Perm.cons _ ((perm_append_comm (l₁ := [C, D]) (l₂ := [E, F])).trans (List.Perm.swap _ _ _)))
 refine (hf.perm (pre' := x.hh b) (List.Perm.flatten hp.symm)).packP rfl ?_
 rintro r H' ⟨rfl, vg', hg', gd', rfl, hgs, hgl, w'⟩
 exact ⟨(⟨x.ss, x.cl, x.ml, gd', x.vn, x.vc, x.vm, vg', x.hw, x.hc, x.hl, hg', x.ns⟩ : WSt).hh b, [], (by rw [append_nil]; exact List.Perm.flatten hp), rfl, _, rfl, ⟨h.m.n, h.m.c, h.m.m, hgs, hgl⟩, w', h.n⟩
end
theorem startX_ct {n : Nat} (h1 : 1 ≤ n) (h4 : n ≤ 4) : Ct prog 33 [.int .i64 (n : Int)] [] (fun r H' => ∃ (b : Nat) (x : WSt), r = .pointer (some ⟨b, 0, none⟩) ∧ H' = x.hh b ∧ x.ok b n 2 ∧ (∀ (i : Nat) s, x.ss[i]? = some s → s = fstS n (i : Int)) ∧ x.cl = [firstCh n]) :=
 (started_ct h1 h4).mono fun r H' ⟨b, vn, vc, vm, vg, hw, hc, hl, hg, ns, ss, e1, e2, m, w, e3, e4⟩ => ⟨b, ⟨ss, [firstCh n], [], [], vn, vc, vm, vg, hw, hc, hl, hg, ns⟩, e1, e2, ⟨m, w, e3⟩, e4, rfl⟩
set_option maxRecDepth 10000 in
set_option maxHeartbeats 2000000 in
theorem stable_ct (k : Int) {ds : List Dd} {v : Value} {h0 : Hp} (hs : Rs ds v h0) (hd : ∀ d ∈ ds, DdOk d) :
  Ct prog 6 [.int .i64 k, v] [h0] (fun r H' => r = .bool true ∧ H' = [h0]) := by
 obtain ⟨vp, vc, rfl⟩ := hs.len
 refine Ct.mk' func6 rfl rfl rfl (fun g R => ?_)
 try simp only [ca]
 simp only [na]
 repeat' (first | refine runS ?_ | refine WX.callQ rfl lable_ct rfl ?_ | fail)
 by_cases hl : 300 < ds.length
 ·try refine runS ?_
  exact D.fin1 [h0] _ rfl rfl ⟨rfl, rfl⟩
 obtain ⟨n, hn⟩ : ∃ n : Nat, 1 + k % 4 = (n : Int) := ⟨(1 + k % 4).toNat, by omega⟩
 have h1 : 1 ≤ n := by omega
 have h4 : n ≤ 4 := by omega
 repeat' (first | refine runS ?_ | refine WX.mask 2 4 rfl rfl (by decide) (by decide) rfl rfl ?_ | fail)
 refine WX.as 14 (.int .i64 (n : Int)) rfl (by rw [hn]) ?_
 refine WX.call rfl (startX_ct h1 h4) rfl ?_
 rintro _ _ ⟨b, x, rfl, rfl, okx, hfst, hxcl⟩
 simp only [WSt.hh, cons_append, nil_append]
 try refine runS ?_
 refine W.loop (α := Nat × WSt) (fun y => y.1 ≤ ds.length ∧ y.2.ok b n (2 * (y.1 : Int) + 2)) (fun y => [(1, .slice vp ds.length vc), (5, .pointer (some ⟨b, 0, none⟩)), (6, .int .i64 (y.1 : Int))]) (fun y => [WwBk b y.2.vn y.2.vc y.2.vm y.2.vg, y.2.hw, y.2.hc, y.2.hl, y.2.hg, nhp y.2.ns, h0, R]) (fun y => ds.length - y.1) (0, x) ⟨Nat.zero_le _, okx⟩ (by repeat (first | exact Fsub.nil | refine Fsub.cons rfl ?_)) (Hsub.of_picks inferInstance) ?_
 clear hfst hxcl okx
 rintro ⟨i, x⟩ ⟨hi, okx⟩
 simp only [] at hi okx ⊢
 by_cases hlt : i < ds.length
 ·obtain ⟨d, hdi⟩ : ∃ d, ds[i]? = some d := ⟨_, List.getElem?_eq_getElem hlt⟩
  have hdd := hd d (mem_of_getElem? hdi)
  repeat' (first | refine runS ?_ | refine WX.loadEW rfl hs hdi rfl rfl ?_ | fail)
  refine WX.call rfl (stepX_ct okx h1 h4 (by omega) d hdd) rfl ?_
  rintro _ _ ⟨rfl, x', rfl, okx', stx'⟩
  simp only [WSt.hh, cons_append, nil_append]
  try refine runS ?_
  refine WX.call rfl (soundX_ct okx' h1 h4) rfl ?_
  rintro _ _ ⟨rfl, x2, rfl, ok2⟩
  simp only [WSt.hh, cons_append, nil_append]
  try refine runS ?_
  have e1 : 2 * (i : Int) + 2 + 2 = 2 * ((i + 1 : Nat) : Int) + 2 := by omega
  rw [e1] at ok2
  exact D.rd (i + 1, x2) ⟨by simp only []; omega, ok2⟩ (by simp only []; omega)
 ·try refine runS ?_
  exact D.fin1 [h0] _ rfl rfl ⟨rfl, rfl⟩
theorem nhp_one {ns : List Nl} {i : Nat} {m : Nl} (hm : ns[i]? = some m) : (nhp ns).Perm (m.h ++ (nhp (ns.take i) ++ nhp (ns.drop (i + 1)))) := by
 rw [nhp_split hm]
 exact (perm_append_comm_assoc _ _ _)
theorem nhp_two {ns : List Nl} {i j : Nat} {m m' : Nl} (hm : ns[i]? = some m) (hm' : ns[j]? = some m') (hij : i ≠ j) : ∃ r, (nhp ns).Perm (m.h ++ (m'.h ++ r)) := by
 have h1 := nhp_one hm
 rcases Nat.lt_or_gt_of_ne hij with h | h
 ·have h2 := nhp_one (ns := ns.drop (i + 1)) (i := j - (i + 1)) (m := m') (by rw [List.getElem?_drop]; rw [show i + 1 + (j - (i + 1)) = j by omega]; exact hm')
  refine ⟨nhp (ns.take i) ++ (nhp ((ns.drop (i + 1)).take (j - (i + 1))) ++ nhp ((ns.drop (i + 1)).drop (j - (i + 1) + 1))), h1.trans (List.Perm.append_left _ ?_)⟩
  exact (List.Perm.append_left _ h2).trans (perm_append_comm_assoc _ _ _)
 ·have h2 := nhp_one (ns := ns.take i) (i := j) (m := m') (by rw [List.getElem?_take, if_pos h]; exact hm')
  refine ⟨(nhp ((ns.take i).take j) ++ nhp ((ns.take i).drop (j + 1))) ++ nhp (ns.drop (i + 1)), h1.trans (List.Perm.append_left _ ?_)⟩
  refine (List.Perm.append_right _ h2).trans ?_
  rw [append_assoc]
theorem behind_ne {ch : Ch} (ok : ChOk ch) {n k : Int} (hk : 0 ≤ k) (h : behindO (some ch) n = k) : k ≠ n := by
 obtain ⟨p, j, ⟨a, b, e⟩, hp, hj⟩ := behind_of hk h
 intro ee
 have h1 : ch.all[a.length]? = some p := by rw [e]; simp
 have h2 : ch.all[a.length + 1]? = some j := by rw [e]; simp
 have := pw_ne ok.up h1 h2 (by rw [hp, hj, ee])
 omega
set_option maxRecDepth 10000 in
set_option maxHeartbeats 4000000 in
theorem prefixes_ct (k : Int) {ds : List Dd} {v : Value} {h0 : Hp} (hs : Rs ds v h0) (hd : ∀ d ∈ ds, DdOk d) :
  Ct prog 8 [.int .i64 k, v] [h0] (fun r H' => r = .bool true ∧ H' = [h0]) := by
 obtain ⟨vp, vc, rfl⟩ := hs.len
 refine Ct.mk' func8 rfl rfl rfl (fun g R => ?_)
 try simp only [ca]
 simp only [na]
 repeat' (first | refine runS ?_ | refine WX.callQ rfl lable_ct rfl ?_ | fail)
 by_cases hl : 300 < ds.length
 ·try refine runS ?_
  exact D.fin1 [h0] _ rfl rfl ⟨rfl, rfl⟩
 obtain ⟨n, hn⟩ : ∃ n : Nat, 1 + k % 4 = (n : Int) := ⟨(1 + k % 4).toNat, by omega⟩
 have h1 : 1 ≤ n := by omega
 have h4 : n ≤ 4 := by omega
 repeat' (first | refine runS ?_ | refine WX.mask 2 4 rfl rfl (by decide) (by decide) rfl rfl ?_ | fail)
 refine WX.as 17 (.int .i64 (n : Int)) rfl (by rw [hn]) ?_
 refine WX.call rfl (startX_ct h1 h4) rfl ?_
 rintro _ _ ⟨b, x, rfl, rfl, okx, hfst, hxcl⟩
 simp only [WSt.hh, cons_append, nil_append]
 try refine runS ?_
 refine W.loop (α := Nat × WSt) (fun y => y.1 ≤ ds.length ∧ y.2.ok b n (2 * (y.1 : Int) + 2)) (fun y => [(1, .slice vp ds.length vc), (5, .pointer (some ⟨b, 0, none⟩)), (6, .int .i64 (y.1 : Int))]) (fun y => [WwBk b y.2.vn y.2.vc y.2.vm y.2.vg, y.2.hw, y.2.hc, y.2.hl, y.2.hg, nhp y.2.ns, h0, R]) (fun y => ds.length - y.1) (0, x) ⟨Nat.zero_le _, okx⟩ (by repeat (first | exact Fsub.nil | refine Fsub.cons rfl ?_)) (Hsub.of_picks inferInstance) ?_
 clear hfst hxcl okx
 rintro ⟨i, x⟩ ⟨hi, okx⟩
 simp only [] at hi okx ⊢
 by_cases hlt : i < ds.length
 ·obtain ⟨d, hdi⟩ : ∃ d, ds[i]? = some d := ⟨_, List.getElem?_eq_getElem hlt⟩
  have hdd := hd d (mem_of_getElem? hdi)
  repeat' (first | refine runS ?_ | refine WX.loadEW rfl hs hdi rfl rfl ?_ | fail)
  refine WX.call rfl (stepX_ct okx h1 h4 (by omega) d hdd) rfl ?_
  rintro _ _ ⟨rfl, x', rfl, okx', stx'⟩
  simp only [WSt.hh, cons_append, nil_append]
  try refine runS ?_
  have e1 : 2 * (i : Int) + 2 + 2 = 2 * ((i + 1 : Nat) : Int) + 2 := by omega
  rw [e1] at okx'
  have hns := okx'.ns
  obtain ⟨⟨hN, -, -, -, -⟩, hw', -⟩ := id okx'
  obtain ⟨ss, cl, ml, gd, vn, vc', vm, vg, hw, hc, hl', hg, ns⟩ := x'
  simp only [] at hns hN hw' ⊢
  have hss : ss.length = ns.length := by rw [← hN.ss, length_map]
  have hsn := hN.rs
  obtain ⟨p, kn, en⟩ := hsn.len
  subst en
  refine W.loop (α := Nat) (fun q => q ≤ ns.length) (fun q => [(1, .slice vp ds.length vc), (5, .pointer (some ⟨b, 0, none⟩)), (6, .int .i64 (i : Int)), (7, .int .i64 (q : Int))]) (fun _ => [WwBk b (.slice p ns.length kn) vc' vm vg, hw, hc, hl', hg, nhp ns, h0, R]) (fun q => ns.length - q) 0 (Nat.zero_le _) (by repeat (first | exact Fsub.nil | refine Fsub.cons rfl ?_)) (Hsub.of_picks inferInstance) ?_
  intro q hq
  by_cases hlq : q < ns.length
  ·obtain ⟨m, hm⟩ : ∃ m, ns[q]? = some m := ⟨_, List.getElem?_eq_getElem hlq⟩
   have hms : ss[q]? = some m.s := by rw [← hN.ss, List.getElem?_map, hm]; rfl
   have okm : CsOk m.s.ch := (hw'.ok m.s (mem_of_getElem? hms)).ch
   obtain ⟨cb, d', w, v, hv, seg, t, hd', eh, at_⟩ := hN.at_ m (mem_of_getElem? hm)
   have hup := lup_ct m.b cb m.s.c0.dc m.s.c0.rg m.s.c0.nd d' w m.s.isUp
   have hcf := cconfig_ct m.s.ch cb v
   have hbe := behind_ct okm.co (q : Int)
   have hp1 := nhp_one hm
   generalize nhp (ns.take q) ++ nhp (ns.drop (q + 1)) = rest at hp1
   rw [eh] at hp1
   have hfl : [WwBk b (.slice p ns.length kn) vc' vm vg, hw, hc, hl', hg, nhp ns, h0, R].flatten.Perm [WwBk b (.slice p ns.length kn) vc' vm vg, hw, hc, hl', hg, LgBk m.b cb m.s.c0.dc m.s.c0.rg m.s.c0.nd d' w m.s.isUp, CsBk cb m.s.ch v, hv, WBk w d' seg t, hd', rest, h0, R].flatten := by
    have := (List.Perm.append_left (WwBk b (.slice p ns.length kn) vc' vm vg ++ (hw ++ (hc ++ (hl' ++ hg)))) (List.Perm.append_right (h0 ++ R) hp1))
    simpa using this
   refine W.perm hfl ?_
   repeat' (first | refine runS ?_ | refine WX.callQ rfl hcf rfl ?_ | refine WX.callQ rfl hbe rfl ?_ | fail)
   have back : ∀ {n L Q e}, D g Q e n L [WwBk b (.slice p ns.length kn) vc' vm vg, hw, hc, hl', hg, nhp ns, h0, R] → D g Q e n L [WwBk b (.slice p ns.length kn) vc' vm vg, hw, hc, hl', hg, LgBk m.b cb m.s.c0.dc m.s.c0.rg m.s.c0.nd d' w m.s.isUp, CsBk cb m.s.ch v, hv, WBk w d' seg t, hd', rest, h0, R] := fun h => D.perm hfl.symm h
   cases hu : m.s.isUp with
   | false =>
    rw [hu] at hup back
    refine W.quiet Tryz.mix (by kernel_rfl) ?_
    repeat' (first | refine runS ?_ | refine WX.callQ rfl hup rfl ?_ | fail)
    refine back ?_
    exact D.rd (q + 1) (by omega) (by omega)
   | true =>
   rw [hu] at hup back
   by_cases hj0 : behindO m.s.ch.co (q : Int) < 0
   ·refine W.quiet Tryz.mix (by kernel_rfl) ?_
    repeat' (first | refine runS ?_ | refine WX.callQ rfl hup rfl ?_ | fail)
    refine back ?_
    exact D.rd (q + 1) (by omega) (by omega)
   by_cases hjn : (ns.length : Int) ≤ behindO m.s.ch.co (q : Int)
   ·refine W.quiet Tryz.mix (by kernel_rfl) ?_
    repeat' (first | refine runS ?_ | refine WX.callQ rfl hup rfl ?_ | fail)
    refine back ?_
    exact D.rd (q + 1) (by omega) (by omega)
   obtain ⟨tn, top, htop, wi⟩ := hw'.wi
   obtain ⟨l, c, tt, hsc⟩ : ∃ l c tt, m.s = .up l c tt := by
    cases hs0 : m.s with
    | up l c tt => exact ⟨l, c, tt, rfl⟩
    | dn l c qq => rw [hs0] at hu; cases hu
   have hvc : (ss.map vcOf)[q]? = some c := by rw [List.getElem?_map, hms, hsc]; rfl
   have hch : m.s.ch = c := by rw [hsc]; rfl
   have hnd : c.nd = (q : Int) := by have := hw'.id q m.s hms; rw [hsc] at this; exact this
   have hsl : IsSl 43 c.lg v hv := by have := at_.sl; rw [hch] at this; exact this
   rw [hch] at hj0 hjn hbe hcf okm hfl ⊢
   have hJ : ((behindO c.co (q : Int)).toNat : Int) = behindO c.co (q : Int) := Int.toNat_of_nonneg (by omega)
   obtain ⟨m', hm'⟩ : ∃ m', ns[(behindO c.co (q : Int)).toNat]? = some m' := ⟨_, List.getElem?_eq_getElem (by omega)⟩
   have hne : q ≠ (behindO c.co (q : Int)).toNat := by
    intro e
    obtain ⟨ch, -, hco, okh, -⟩ := wi.chain hvc
    rw [hco] at hJ e hj0
    exact behind_ne (k := behindO (some ch) (q : Int)) okh (by omega) rfl (by omega)
   have hms' : ss[(behindO c.co (q : Int)).toNat]? = some m'.s := by rw [← hN.ss, List.getElem?_map, hm']; rfl
   obtain ⟨cb2, d2, w2, v2, hv2, seg2, t2, hd2, eh2, at2⟩ := hN.at_ m' (mem_of_getElem? hm')
   obtain ⟨r2, hp2⟩ := nhp_two hm hm' hne
   have okm' : CsOk m'.s.ch := (hw'.ok m'.s (mem_of_getElem? hms')).ch
   have hup2 := lup_ct m'.b cb2 m'.s.c0.dc m'.s.c0.rg m'.s.c0.nd d2 w2 m'.s.isUp
   have hep := cepoch_ct c cb v
   have hep2 := cepoch_ct m'.s.ch cb2 v2
   have hid : ((behindO c.co (q : Int)).toNat : Int) = m'.s.c0.nd := (hw'.id _ m'.s hms').symm
   rw [eh, eh2, hch, hu] at hp2
   have hfl2 : [WwBk b (.slice p ns.length kn) vc' vm vg, hw, hc, hl', hg, nhp ns, h0, R].flatten.Perm [WwBk b (.slice p ns.length kn) vc' vm vg, hw, hc, hl', hg, LgBk m.b cb m.s.c0.dc m.s.c0.rg m.s.c0.nd d' w true, CsBk cb c v, hv, WBk w d' seg t, hd', LgBk m'.b cb2 m'.s.c0.dc m'.s.c0.rg m'.s.c0.nd d2 w2 m'.s.isUp, CsBk cb2 m'.s.ch v2, hv2, WBk w2 d2 seg2 t2, hd2, r2, h0, R].flatten := by
    have := (List.Perm.append_left (WwBk b (.slice p ns.length kn) vc' vm vg ++ (hw ++ (hc ++ (hl' ++ hg)))) (List.Perm.append_right (h0 ++ R) hp2))
    simpa using this
   rw [hu] at hfl
   refine W.perm (hfl.symm.trans hfl2) ?_
   have back2 : ∀ {n L Q e}, D g Q e n L [WwBk b (.slice p ns.length kn) vc' vm vg, hw, hc, hl', hg, nhp ns, h0, R] → D g Q e n L [WwBk b (.slice p ns.length kn) vc' vm vg, hw, hc, hl', hg, LgBk m.b cb m.s.c0.dc m.s.c0.rg m.s.c0.nd d' w true, CsBk cb c v, hv, WBk w d' seg t, hd', LgBk m'.b cb2 m'.s.c0.dc m'.s.c0.rg m'.s.c0.nd d2 w2 m'.s.isUp, CsBk cb2 m'.s.ch v2, hv2, WBk w2 d2 seg2 t2, hd2, r2, h0, R] := fun h => D.perm hfl2.symm h
   obtain ⟨J, hJb⟩ : ∃ J, behindO c.co (q : Int) = J := ⟨_, rfl⟩
   rw [hJb] at hj0 hjn hbe hJ hm' hms' hne hid ⊢
   obtain ⟨j, rfl⟩ : ∃ j : Nat, J = (j : Int) := ⟨J.toNat, hJ.symm⟩
   rw [Int.toNat_natCast] at hm' hms' hne hid
   cases hu2 : m'.s.isUp with
   | false =>
    rw [hu2] at hup2 back2
    refine W.quiet Tryz.mix (by kernel_rfl) ?_
    repeat' (first | refine runS ?_ | refine WX.callQ rfl hup rfl ?_ | refine WX.callQ rfl hup2 rfl ?_ | fail)
    refine back2 ?_
    exact D.rd (q + 1) (by omega) (by omega)
   | true =>
   rw [hu2] at hup2 back2
   by_cases heq : (cfO m'.s.ch.co).ep = (cfO c.co).ep
   ·obtain ⟨l2, c2, tt2, hsc2⟩ : ∃ l c tt, m'.s = .up l c tt := by
     cases hs0 : m'.s with
     | up l c tt => exact ⟨l, c, tt, rfl⟩
     | dn l c qq => rw [hs0] at hu2; cases hu2
    have hvc2 : (ss.map vcOf)[j]? = some c2 := by rw [List.getElem?_map, hms', hsc2]; rfl
    have hch2 : m'.s.ch = c2 := by rw [hsc2]; rfl
    have hsl2 : IsSl 43 c2.lg v2 hv2 := by have := at2.sl; rw [hch2] at this; exact this
    have hpre := wi.prefixes hvc hvc2 (by rw [hnd]; omega) (by rw [hnd, hJb]; have := hid; rw [hsc2] at this; exact this.symm) (by rw [hch2] at heq; exact heq)
    have hd1 := okm.du
    have hd2' := okm.len
    have hlen : c.len = (c.lg.length : Int) := rfl
    have hlo := clog_ct c cb hsl.rs (by omega)
    have hlo2 := clog_ct c2 cb2 hsl2.rs (by rw [hch2] at okm'; have := okm'.len; omega)
    have hdu := cdur_ct c cb v
    rw [hch2] at heq hep2 back2 ⊢
    refine W.quiet Tryz.mix (by kernel_rfl) ?_
    repeat' (first | refine runS ?_ | refine WX.callQ rfl hup rfl ?_ | refine WX.callQ rfl hup2 rfl ?_ | refine WX.callQ rfl hep2 rfl ?_ | refine WX.callQ rfl hep rfl ?_ | fail)
    refine W.mixT [true, true, true, true, true, true, true, true, true, true, false, true, true, true, true, false, true, true, true, true, false] [WwBk b (.slice p ns.length kn) vc' vm vg, hw, LgBk m.b cb m.s.c0.dc m.s.c0.rg m.s.c0.nd d' w true, LgBk m'.b cb2 m'.s.c0.dc m'.s.c0.rg m'.s.c0.nd d2 w2 true] Tryz.mix (by kernel_rfl) ?_
    try refine runS ?_
    refine WX.call rfl hlo2 rfl ?_
    rintro vL2 _ ⟨hL2, hsL2, rfl⟩
    simp only [ca, na]
    try refine runS ?_
    refine WX.call rfl hlo rfl ?_
    rintro vL _ ⟨hL, hsL, rfl⟩
    simp only [ca, na]
    repeat' (first | refine runS ?_ | refine WX.callQ rfl hdu rfl ?_ | fail)
    have hsr := hsL.rs
    obtain ⟨pL, kL, rfl⟩ := hsr.len
    have hX : Rs (c.lg.take c.du.toNat) (.slice pL c.du.toNat kL) hL := hsr.take (by omega)
    have hpc := prefix_ct hsL2.rs hX (prefix_iff_eq_take.1 hpre) (by rw [length_take]; omega)
    have hK : c.du.toNat ≤ c.lg.length := by omega
    refine WX.as 120 (.int .i64 (c.du.toNat : Int)) rfl (by congr 1; omega) ?_
    generalize c.du.toNat = K at *
    repeat' (first | refine runS ?_ | refine WX.callQ rfl hpc rfl ?_ | fail)
    refine D.sub (H' := [WwBk b (.slice p ns.length kn) vc' vm vg, hw, hc, hl', hg, LgBk m.b cb m.s.c0.dc m.s.c0.rg m.s.c0.nd d' w true, CsBk cb c v, hv, WBk w d' seg t, hd', LgBk m'.b cb2 m'.s.c0.dc m'.s.c0.rg m'.s.c0.nd d2 w2 true, CsBk cb2 c2 v2, hv2, WBk w2 d2 seg2 t2, hd2, r2, h0, R]) (Fsub.refl _) (Hsub.of_picks inferInstance) ?_
    refine back2 ?_
    exact D.rd (q + 1) (by omega) (by omega)
   ·refine W.quiet Tryz.mix (by kernel_rfl) ?_
    repeat' (first | refine runS ?_ | refine WX.callQ rfl hup rfl ?_ | refine WX.callQ rfl hup2 rfl ?_ | refine WX.callQ rfl hep2 rfl ?_ | refine WX.callQ rfl hep rfl ?_ | fail)
    refine back2 ?_
    exact D.rd (q + 1) (by omega) (by omega)
  ·try refine runS ?_
   exact D.rd (i + 1, (⟨ss, cl, ml, gd, .slice p ns.length kn, vc', vm, vg, hw, hc, hl', hg, ns⟩ : WSt)) ⟨by simp only []; omega, okx'⟩ (by simp only []; omega)
 ·try refine runS ?_
  exact D.fin1 [h0] _ rfl rfl ⟨rfl, rfl⟩
set_option maxRecDepth 10000 in
set_option maxHeartbeats 4000000 in
theorem held_ct (k : Int) {ds : List Dd} {v : Value} {h0 : Hp} (hs : Rs ds v h0) (hd : ∀ d ∈ ds, DdOk d) :
  Ct prog 7 [.int .i64 k, v] [h0] (fun r H' => r = .bool true ∧ H' = [h0]) := by
 obtain ⟨vp, vc, rfl⟩ := hs.len
 refine Ct.mk' func7 rfl rfl rfl (fun g R => ?_)
 try simp only [ca]
 simp only [na]
 repeat' (first | refine runS ?_ | refine WX.callQ rfl lable_ct rfl ?_ | fail)
 by_cases hl : 300 < ds.length
 ·try refine runS ?_
  exact D.fin1 [h0] _ rfl rfl ⟨rfl, rfl⟩
 obtain ⟨n, hn⟩ : ∃ n : Nat, 1 + k % 4 = (n : Int) := ⟨(1 + k % 4).toNat, by omega⟩
 have h1 : 1 ≤ n := by omega
 have h4 : n ≤ 4 := by omega
 repeat' (first | refine runS ?_ | refine WX.mask 2 4 rfl rfl (by decide) (by decide) rfl rfl ?_ | fail)
 refine WX.as 16 (.int .i64 (n : Int)) rfl (by rw [hn]) ?_
 refine WX.call rfl (startX_ct h1 h4) rfl ?_
 rintro _ _ ⟨b, x, rfl, rfl, okx, hfst, hxcl⟩
 simp only [WSt.hh, cons_append, nil_append]
 try refine runS ?_
 refine W.loop (α := Nat × WSt) (fun y => y.1 ≤ ds.length ∧ y.2.ok b n (2 * (y.1 : Int) + 2)) (fun y => [(1, .slice vp ds.length vc), (5, .pointer (some ⟨b, 0, none⟩)), (6, .int .i64 (y.1 : Int))]) (fun y => [WwBk b y.2.vn y.2.vc y.2.vm y.2.vg, y.2.hw, y.2.hc, y.2.hl, y.2.hg, nhp y.2.ns, h0, R]) (fun y => ds.length - y.1) (0, x) ⟨Nat.zero_le _, okx⟩ (by repeat (first | exact Fsub.nil | refine Fsub.cons rfl ?_)) (Hsub.of_picks inferInstance) ?_
 clear hfst hxcl okx
 rintro ⟨i, x⟩ ⟨hi, okx⟩
 simp only [] at hi okx ⊢
 by_cases hlt : i < ds.length
 ·obtain ⟨d, hdi⟩ : ∃ d, ds[i]? = some d := ⟨_, List.getElem?_eq_getElem hlt⟩
  have hdd := hd d (mem_of_getElem? hdi)
  repeat' (first | refine runS ?_ | refine WX.loadEW rfl hs hdi rfl rfl ?_ | fail)
  refine WX.call rfl (stepX_ct okx h1 h4 (by omega) d hdd) rfl ?_
  rintro _ _ ⟨rfl, x', rfl, okx', stx'⟩
  simp only [WSt.hh, cons_append, nil_append]
  try refine runS ?_
  refine WX.call rfl (soundX_ct okx' h1 h4) rfl ?_
  clear stx' okx' x'
  rintro _ _ ⟨rfl, x', rfl, okx'⟩
  simp only [WSt.hh, cons_append, nil_append]
  try refine runS ?_
  have e1 : 2 * (i : Int) + 2 + 2 = 2 * ((i + 1 : Nat) : Int) + 2 := by omega
  rw [e1] at okx'
  have hns := okx'.ns
  obtain ⟨⟨hN, hcs, -, hgs, hgl⟩, hw', -⟩ := id okx'
  obtain ⟨ss, cl, ml, gd, vn, vc', vm, vg, hw, hc, hl', hg, ns⟩ := x'
  simp only [] at hns hN hw' hcs hgs hgl ⊢
  have hss : ss.length = ns.length := by rw [← hN.ss, length_map]
  have hsn := hN.rs
  obtain ⟨p, kn, en⟩ := hsn.len
  subst en
  have hgr := hgs.rs
  obtain ⟨pg, kg, eg⟩ := hgr.len
  subst eg
  obtain ⟨tn, top, htop, wi⟩ := hw'.wi
  have hncl := hw'.ncl
  have hnw := newest_ct b (.slice p ns.length kn) vc' vm (.slice pg gd.length kg) htop hcs.rs (by omega)
  refine W.loop (α := Nat) (fun q => q ≤ ns.length) (fun q => [(1, .slice vp ds.length vc), (5, .pointer (some ⟨b, 0, none⟩)), (6, .int .i64 (i : Int)), (7, .int .i64 (q : Int))]) (fun _ => [WwBk b (.slice p ns.length kn) vc' vm (.slice pg gd.length kg), hw, hc, hl', hg, nhp ns, h0, R]) (fun q => ns.length - q) 0 (Nat.zero_le _) (by repeat (first | exact Fsub.nil | refine Fsub.cons rfl ?_)) (Hsub.of_picks inferInstance) ?_
  intro q hq
  by_cases hlq : q < ns.length
  ·obtain ⟨m, hm⟩ : ∃ m, ns[q]? = some m := ⟨_, List.getElem?_eq_getElem hlq⟩
   have hms : ss[q]? = some m.s := by rw [← hN.ss, List.getElem?_map, hm]; rfl
   have okm : CsOk m.s.ch := (hw'.ok m.s (mem_of_getElem? hms)).ch
   obtain ⟨cb, d', w, v, hv, seg, t, hd', eh, at_⟩ := hN.at_ m (mem_of_getElem? hm)
   have hup := lup_ct m.b cb m.s.c0.dc m.s.c0.rg m.s.c0.nd d' w m.s.isUp
   have hfu := fullO_ct (o := some top) (ChO.some (wi.chs.ok top wi.tp.1)) (q : Int)
   have hp1 := nhp_one hm
   generalize nhp (ns.take q) ++ nhp (ns.drop (q + 1)) = rest at hp1
   rw [eh] at hp1
   have hfl : [WwBk b (.slice p ns.length kn) vc' vm (.slice pg gd.length kg), hw, hc, hl', hg, nhp ns, h0, R].flatten.Perm [WwBk b (.slice p ns.length kn) vc' vm (.slice pg gd.length kg), hw, hc, hl', hg, LgBk m.b cb m.s.c0.dc m.s.c0.rg m.s.c0.nd d' w m.s.isUp, CsBk cb m.s.ch v, hv, WBk w d' seg t, hd', rest, h0, R].flatten := by
    have := (List.Perm.append_left (WwBk b (.slice p ns.length kn) vc' vm (.slice pg gd.length kg) ++ (hw ++ (hc ++ (hl' ++ hg)))) (List.Perm.append_right (h0 ++ R) hp1))
    simpa using this
   refine W.perm hfl ?_
   try refine runS ?_
   have back : ∀ {n L Q e}, D g Q e n L [WwBk b (.slice p ns.length kn) vc' vm (.slice pg gd.length kg), hw, hc, hl', hg, nhp ns, h0, R] → D g Q e n L [WwBk b (.slice p ns.length kn) vc' vm (.slice pg gd.length kg), hw, hc, hl', hg, LgBk m.b cb m.s.c0.dc m.s.c0.rg m.s.c0.nd d' w m.s.isUp, CsBk cb m.s.ch v, hv, WBk w d' seg t, hd', rest, h0, R] := fun h => D.perm hfl.symm h
   cases hu : m.s.isUp with
   | false =>
    rw [hu] at hup back
    refine W.quiet Tryz.mix (by kernel_rfl) ?_
    repeat' (first | refine runS ?_ | refine WX.callQ rfl hup rfl ?_ | fail)
    refine back ?_
    exact D.rd (q + 1) (by omega) (by omega)
   | true =>
   rw [hu] at hup back
   obtain ⟨fu, hff⟩ : ∃ fu, fullO (some top) (q : Int) = fu := ⟨_, rfl⟩
   rw [hff] at hfu
   cases fu with
   | false =>
    refine W.quiet Tryz.mix (by kernel_rfl) ?_
    repeat' (first | refine runS ?_ | refine WX.callQ rfl hup rfl ?_ | refine WX.callQ rfl hnw rfl ?_ | refine WX.callQ rfl hfu rfl ?_ | fail)
    refine back ?_
    exact D.rd (q + 1) (by omega) (by omega)
   | true =>
   obtain ⟨l, c, tt, hsc⟩ : ∃ l c tt, m.s = .up l c tt := by
    cases hs0 : m.s with
    | up l c tt => exact ⟨l, c, tt, rfl⟩
    | dn l c qq => rw [hs0] at hu; cases hu
   have hvc : (ss.map vcOf)[q]? = some c := by rw [List.getElem?_map, hms, hsc]; rfl
   have hch : m.s.ch = c := by rw [hsc]; rfl
   have hnd : c.nd = (q : Int) := by have := hw'.id q m.s hms; rw [hsc] at this; exact this
   have hsl : IsSl 43 c.lg v hv := by have := at_.sl; rw [hch] at this; exact this
   have hpre := wi.held hvc (by rw [hnd]; exact hff)
   rw [hch] at okm back ⊢
   have hd1 := okm.du
   have hd2' := okm.len
   have hlen : c.len = (c.lg.length : Int) := rfl
   have hlo := clog_ct c cb hsl.rs (by omega)
   have hdu := cdur_ct c cb v
   refine W.mixT [true, false, true, true, false, true, false, true, true, true, true, true, true, true, true, true, true, false, true, true, true, true, false, true, false] [WwBk b (.slice p ns.length kn) vc' vm (.slice pg gd.length kg), LgBk m.b cb m.s.c0.dc m.s.c0.rg m.s.c0.nd d' w true] Tryz.mix (by kernel_rfl) ?_
   repeat' (first | refine runS ?_ | refine WX.callQ rfl hup rfl ?_ | refine WX.callQ rfl hnw rfl ?_ | refine WX.callQ rfl hfu rfl ?_ | fail)
   refine WX.call rfl hlo rfl ?_
   rintro vL _ ⟨hL, hsL, rfl⟩
   simp only [ca, na]
   repeat' (first | refine runS ?_ | refine WX.callQ rfl hdu rfl ?_ | fail)
   have hsr := hsL.rs
   obtain ⟨pL, kL, rfl⟩ := hsr.len
   have hX : Rs (c.lg.take c.du.toNat) (.slice pL c.du.toNat kL) hL := hsr.take (by omega)
   have hpc := prefix_ct hgr hX (prefix_iff_eq_take.1 hpre) (by rw [length_take]; omega)
   have hK : c.du.toNat ≤ c.lg.length := by omega
   refine WX.as 71 (.int .i64 (c.du.toNat : Int)) rfl (by congr 1; omega) ?_
   generalize c.du.toNat = K at *
   repeat' (first | refine runS ?_ | refine WX.callQ rfl hpc rfl ?_ | fail)
   refine D.sub (H' := [WwBk b (.slice p ns.length kn) vc' vm (.slice pg gd.length kg), hw, hc, hl', hg, LgBk m.b cb m.s.c0.dc m.s.c0.rg m.s.c0.nd d' w true, CsBk cb c v, hv, WBk w d' seg t, hd', rest, h0, R]) (Fsub.refl _) (Hsub.of_picks inferInstance) ?_
   refine back ?_
   exact D.rd (q + 1) (by omega) (by omega)
  ·try refine runS ?_
   exact D.rd (i + 1, (⟨ss, cl, ml, gd, .slice p ns.length kn, vc', vm, .slice pg gd.length kg, hw, hc, hl', hg, ns⟩ : WSt)) ⟨by simp only []; omega, okx'⟩ (by simp only []; omega)
 ·try refine runS ?_
  exact D.fin1 [h0] _ rfl rfl ⟨rfl, rfl⟩
end Go.Proofs.YtejfahjgfedliaaGreat

namespace Go.Proofs.YtejfahjgfedliaaGreat
open Go Go.Sl Go.Proofs.Tryz
set_option maxRecDepth 100000 in
theorem rd_dd : RdOk prog 68 Dd (fun _ d => DdOk d) := Go.Sl.rd_of fun H enc w cs h => by
 have hl : cs.length = 7 := h.len (i := 0)
 obtain ⟨k, e0, _⟩ := (h.field 0).int
 obtain ⟨a, e1, ha⟩ := (h.field 1).int
 obtain ⟨b, e2, _⟩ := (h.field 2).int
 obtain ⟨n, e3, hn⟩ := (h.field 3).int
 obtain ⟨tw, e4⟩ := (h.field 4).bool
 obtain ⟨key, e5, _⟩ := (h.field 5).string
 obtain ⟨val, e6, _⟩ := (h.field 6).string
 have e0 : (cs.drop 0).take 1 = [.int .i64 k] := e0
 have e1 : (cs.drop 1).take 1 = [.int .i64 a] := e1
 have e2 : (cs.drop 2).take 1 = [.int .i64 b] := e2
 have e3 : (cs.drop 3).take 1 = [.int .i64 n] := e3
 have e4 : (cs.drop 4).take 1 = [.bool tw] := e4
 have e5 : (cs.drop 5).take 1 = [.string key] := e5
 have e6 : (cs.drop 6).take 1 = [.string val] := e6
 refine ⟨⟨k, a, b, n, tw, key, val⟩, ?_, ⟨hn.1, hn.2⟩, ⟨ha.1, ha.2⟩⟩
 match cs, hl with
 | [c0, c1, c2, c3, c4, c5, c6], _ =>
  cases e0; cases e1; cases e2; cases e3; cases e4; cases e5; cases e6
  rfl
end Go.Proofs.YtejfahjgfedliaaGreat
