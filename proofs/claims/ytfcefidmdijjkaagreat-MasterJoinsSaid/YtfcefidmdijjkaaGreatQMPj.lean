/-
  Texts of one road, one behind the other.
-/
import Derived.Test.YtfcefidmdijjkaaGreatQMPg
import Derived.Test.YtfcefidmdijjkaaGreatQMPe
import Derived.Test.YtfcefidmdijjkaaGreatQMPf
set_option linter.unusedVariables false
set_option linter.unusedSimpArgs false
namespace Go.Proofs.YtfcefidmdijjkaaGreat
open Go Go.Sl
def Near (c c' : Ch) : Prop := c' = c ∨ (c'.ep = c.ep + 1 ∧ c'.all.length ≤ c.all.length + 1 ∧ c.all.length ≤ c'.all.length + 1)
theorem Near.rfl' (c : Ch) : Near c c := .inl rfl
theorem ch_all_len (c : Ch) : c.all.length = c.ms.length + c.ln.toList.length := by unfold Ch.all; rw [List.length_append]
theorem near_add {c c' : Ch} {n : Int} (h : addL c n = some c') : Near c c' := by
 unfold addL at h
 split at h
 ·cases h
 ·rename_i hn
  simp only [not_or] at hn
  cases h
  refine .inr ⟨rfl, ?_, ?_⟩
  ·rw [ch_all_len, ch_all_len]; simp
  ·rw [ch_all_len, ch_all_len]
   have : c.ln.toList.length ≤ 1 := by cases c.ln <;> simp
   show c.ms.length + c.ln.toList.length ≤ c.ms.length + 1 + 1; omega
theorem near_grow {c c' : Ch} (h : growL c = some c') : Near c c' := by
 unfold growL at h
 split at h
 ·cases h
 ·cases hl : c.ln with
  | none => rw [hl] at h; cases h
  | some m =>
   rw [hl] at h
   cases h
   refine .inr ⟨rfl, ?_, ?_⟩
   ·rw [ch_all_len, ch_all_len, hl]; simp
   ·rw [ch_all_len, ch_all_len, hl]; simp
theorem near_drop {c c' : Ch} (ok : ChOk c) {n : Int} (h : dropL c n = some c') : Near c c' := by
 unfold dropL at h
 split at h
 ·cases h
 ·split at h
  ·rename_i hl
   cases h
   have h1 : c.ln.toList.length ≤ 1 := by cases c.ln <;> simp
   refine .inr ⟨rfl, ?_, ?_⟩
   ·rw [ch_all_len, ch_all_len]; simp only [Option.toList, List.length_nil]; (first | omega | (show c.ms.length + c.ln.toList.length ≤ c.ms.length + 0 + 1; omega))
   ·rw [ch_all_len, ch_all_len]; simp only [Option.toList, List.length_nil]; (first | omega | (show c.ms.length + c.ln.toList.length ≤ c.ms.length + 0 + 1; omega))
  ·split at h
   ·cases h
   ·rename_i n3
    simp only [not_or] at n3
    cases h
    have hh : c.has n = true := by cases hc : c.has n with | true => rfl | false => exact absurd hc n3.1
    obtain ⟨p, hp, hpn⟩ := Ch.has_iff.1 hh
    obtain ⟨pre, post, e⟩ := List.append_of_mem hp
    have hup : (c.ms.map (·.nd)).Pairwise (· ≠ ·) := by
     have := ok.up
     unfold Ch.all at this
     rw [List.map_append] at this
     exact (List.pairwise_append.1 this).1
    obtain ⟨-, g2⟩ := at_node hup e hpn
    have hlen : c.ms.length = (pre ++ post).length + 1 := by rw [e]; simp; omega
    refine .inr ⟨rfl, ?_, ?_⟩
    ·rw [ch_all_len, ch_all_len]; simp only [g2]; omega
    ·rw [ch_all_len, ch_all_len]; simp only [g2]; omega
theorem lay_near {s : MS} {r : Nat} {c : Ch} (h : Near (s.ch r) c) (i : Nat) : Near (s.ch i) ((layS s r c).1.ch i) := by
 by_cases e : i = r
 ·subst e
  unfold layS
  simp only []
  split
  ·rw [updF_same]; exact h
  ·exact .rfl' _
 ·rw [lay_ch e]; exact .rfl' _
theorem tick1_near {s : MS} (ok : MsOk s) {r : Nat} (hr : r < s.rn) (i : Nat) : Near (s.ch i) ((tick1S s r).1.ch i) := by
 unfold tick1S
 split
 ·rename_i c hc
  obtain ⟨x, _, hx⟩ := fsome_ok hc
  exact lay_near (s := s.tick r) (near_drop (ok.ch r hr) hx) i
 ·exact .rfl' _
theorem tickK_near {s : MS} (ok : MsOk s) : ∀ k, k ≤ s.rn → ∀ i, Near (s.ch i) ((tickK s k).1.ch i) ∧ (k ≤ i → (tickK s k).1.ch i = s.ch i)
 | 0, _, i => ⟨.rfl' _, fun _ => rfl⟩
 | k + 1, hk, i => by
  obtain ⟨h1, h2⟩ := tickK_near ok k (by omega) i
  have okk := MsOk.tickK ok k (by omega)
  have sm := SameM.tickK s k
  have e : (tickK s (k + 1)).1 = (tick1S (tickK s k).1 k).1 := rfl
  rw [e]
  by_cases hi : i = k
  ·subst hi
   have := tick1_near okk (r := i) (by rw [sm.rn]; omega) i
   rw [h2 (Nat.le_refl _)] at this
   exact ⟨this, fun h => by omega⟩
  ·rw [tick1_ch hi]
   exact ⟨h1, fun h => h2 (by omega)⟩
theorem handle_near {s : MS} (ok : MsOk s) (x : Msg) (i : Nat) : Near (s.ch i) ((handleS s x).1.ch i) := by
 unfold handleS
 by_cases hup : s.up = false
 ·rw [if_pos hup]; exact .rfl' _
 rw [if_neg hup]
 by_cases h1 : x.kind = 1
 ·rw [if_pos h1]; exact .rfl' _
 rw [if_neg h1]
 by_cases hn : nodeB s x.fr = false
 ·rw [if_pos hn]; exact .rfl' _
 rw [if_neg hn]
 by_cases h10 : x.kind = 10
 ·rw [if_pos h10]
  unfold helloS
  split
  ·rename_i c hc
   exact lay_near (s := s.heard _ _) (near_add hc) i
  ·exact .rfl' _
 rw [if_neg h10]
 by_cases h11 : x.kind = 11
 ·rw [if_pos h11]
  unfold caughtS
  split
  ·rename_i c hc
   split
   ·exact lay_near (near_grow hc) i
   ·exact .rfl' _
  ·exact .rfl' _
 ·rw [if_neg h11]; exact .rfl' _
theorem actP_near {s : MS} (ok : MsOk s) (dc : Int) (a : Ac) (i : Nat) : Near (s.ch i) ((actP s dc a).ch i) := by
 unfold actP
 split
 ·exact handle_near ok _ i
 ·unfold actT
  split
  ·unfold tickS
   split
   ·exact (tickK_near ok _ (Nat.le_refl _) i).1
   ·exact .rfl' _
  split
  ·unfold susS
   split
   ·rename_i h
    split
    ·rename_i c hc
     exact lay_near (near_drop (ok.ch _ (by omega)) hc) i
    ·exact .rfl' _
   ·exact .rfl' _
  split
  ·exact .rfl' _
  split
  ·rw [show (startS s, ([] : List Msg)).1.ch = s.ch from (by show (startS s).ch = _; unfold startS; split <;> rfl)]; exact .rfl' _
  split
  ·exact handle_near ok _ i
  ·exact .rfl' _
theorem handle_down {s : MS} (x : Msg) (h : (handleS s x).1.up = false) : (handleS s x).1.ch = s.ch := by
 have hup : s.up = false := by rw [← (SameM.handle s x).up]; exact h
 unfold handleS
 rw [if_pos hup]
theorem actP_down {s : MS} (dc : Int) (a : Ac) (h : (actP s dc a).up = false) : (actP s dc a).ch = s.ch := by
 unfold actP at h ⊢
 split at h
 ·rename_i k1
  rw [if_pos k1]
  exact handle_down _ h
 ·rename_i k1
  rw [if_neg k1]
  unfold actT at h ⊢
  split at h
  ·rename_i k2
   rw [if_pos k2]
   have hup : s.up = false := by rw [← (SameM.tick s).up]; exact h
   unfold tickS
   rw [if_neg (by rw [hup]; decide)]
  rename_i k2
  rw [if_neg k2]
  split at h
  ·rename_i k3
   rw [if_pos k3]
   have hup : s.up = false := by rw [← (SameM.sus s _ _).up]; exact h
   unfold susS
   rw [if_neg (by rw [hup]; simp)]
  rename_i k3
  rw [if_neg k3]
  split at h
  ·rename_i k4
   rw [if_pos k4]; rfl
  rename_i k4
  rw [if_neg k4]
  split at h
  ·rename_i k5
   rw [if_pos k5]
   show (startS s).ch = _
   unfold startS; split <;> rfl
  rename_i k5
  rw [if_neg k5]
  split at h
  ·rename_i k6
   rw [if_pos k6]
   exact handle_down _ h
  ·rename_i k6
   rw [if_neg k6]
end Go.Proofs.YtfcefidmdijjkaaGreat
