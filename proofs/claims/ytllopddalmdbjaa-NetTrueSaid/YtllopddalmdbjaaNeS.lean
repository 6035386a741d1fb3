/-
  Proved: for every input, causewaylaw10.NetTrue returns true and its arguments read as they did. No condition.
-/
import Derived.Test.YtllopddalmdbjaaNeM
import Derived.Test.YtllopddalmdbjaaNeO
set_option linter.unusedVariables false
set_option linter.unusedSimpArgs false
namespace Go.Proofs.Ytllopddalmdbjaa
open Go Go.Sl

/-- What was sent so far, taken or not. -/
def sentK (acts : List NAct) : Nat → List NAct
  | 0 => []
  | k + 1 => match acts[k]? with
    | none => sentK acts k
    | some a => if a.kind = 1 then sentK acts k ++ [a] else sentK acts k
theorem sentK_succ {acts : List NAct} {k : Nat} {a : NAct} (h : acts[k]? = some a) : sentK acts (k + 1) = if a.kind = 1 then sentK acts k ++ [a] else sentK acts k := by
  show (match acts[k]? with | none => sentK acts k | some a => if a.kind = 1 then sentK acts k ++ [a] else sentK acts k) = _
  rw [h]
theorem sentK_len (acts : List NAct) : ∀ k, (sentK acts k).length ≤ k
  | 0 => Nat.le_refl _
  | k + 1 => by
    have ih := sentK_len acts k
    unfold sentK
    split
    · omega
    · split
      · simp; omega
      · omega
theorem sentK_mem {acts : List NAct} : ∀ k a, a ∈ sentK acts k → a ∈ acts
  | 0, _, h => by cases h
  | k + 1, a, h => by
    unfold sentK at h
    split at h
    · exact sentK_mem k a h
    · rename_i a' ha
      split at h
      · rcases List.mem_append.1 h with h | h
        · exact sentK_mem k a h
        · rw [List.mem_singleton] at h; subst h; exact List.mem_of_getElem? ha
      · exact sentK_mem k a h
def Good (s : NAct) (m : Mail) : Prop := s.f = m.f ∧ s.t = m.t ∧ bitsN s.b m.b ≤ 1
instance (s : NAct) (m : Mail) : Decidable (Good s m) := by unfold Good; infer_instance
/-- All that is under way was sent, and parts from it in one bit at most. -/
def TrueI (S : NetS) (l : List NAct) : Prop := ∀ m ∈ S.ms, ∃ s ∈ l, Good s m ∧ (m.g = false → s.b = m.b)
theorem TrueI.grow {S : NetS} {l l' : List NAct} (h : TrueI S l) (hl : ∀ a ∈ l, a ∈ l') : TrueI S l' := fun m hm => let ⟨s, h1, h2⟩ := h m hm; ⟨s, hl s h1, h2⟩
theorem TrueI.sub {S S' : NetS} {l : List NAct} (h : TrueI S l) (hl : ∀ m ∈ S'.ms, m ∈ S.ms) : TrueI S' l := fun m hm => h m (hl m hm)
theorem drop_sub {S : NetS} {k : Int} : ∀ m ∈ (S.drop k).ms, m ∈ S.ms := by
  unfold NetS.drop
  split
  · exact fun m h => h
  · exact fun m h => List.mem_of_mem_eraseIdx h
theorem del_sub {S : NetS} {k : Int} : ∀ m ∈ (S.del k).ms, m ∈ S.ms := by
  unfold NetS.del
  split
  · exact drop_sub
  · exact fun m h => h
theorem TrueI.act {S : NetS} {l : List NAct} (h : TrueI S l) (a : NAct) : TrueI (S.act a) (if a.kind = 1 then l ++ [a] else l) := by
  unfold NetS.act
  by_cases k1 : a.kind = 1
  · rw [if_pos k1, if_pos k1]
    have hg : TrueI S (l ++ [a]) := h.grow fun a h => List.mem_append_left _ h
    unfold NetS.send
    split
    · intro m hm
      rcases List.mem_append.1 hm with hm | hm
      · exact hg m hm
      · rw [List.mem_singleton] at hm
        subst hm
        exact ⟨a, List.mem_append_right _ (List.mem_singleton.2 rfl), ⟨rfl, rfl, by rw [bitsN_self]; omega⟩, fun _ => rfl⟩
    · exact hg
  · rw [if_neg k1, if_neg k1]
    split
    · exact h.sub del_sub
    · split
      · exact h.sub drop_sub
      · split
        · refine h.sub ?_
          unfold NetS.dbl
          split
          · exact fun m h => h
          · rename_i m' hm'
            split
            · exact fun m h => h
            · intro m hm
              rcases List.mem_append.1 hm with hm | hm
              · exact hm
              · rw [List.mem_singleton] at hm; subst hm; exact List.mem_of_getElem? (at?_some hm').2.1
        · split
          · unfold NetS.gar
            split
            · exact h
            · rename_i m' hm'
              split
              · exact h
              · rename_i hb
                intro m hm
                rcases List.mem_or_eq_of_mem_set hm with hm | rfl
                · exact h m hm
                · obtain ⟨s, h1, ⟨h2, h3, h4⟩, h5⟩ := h m' (List.mem_of_getElem? (at?_some hm').2.1)
                  have hg : m'.g = false := by
                    cases hg : m'.g with
                    | false => rfl
                    | true => exact absurd (.inr hg) hb
                  have hne : 0 < m'.b.length := by
                    rcases Nat.eq_zero_or_pos m'.b.length with h0 | h0
                    · exact absurd (.inl (List.length_eq_zero_iff.1 h0)) hb
                    · exact h0
                  have h6 := h5 hg
                  refine ⟨s, h1, ⟨h2, h3, ?_⟩, fun hh => by cases hh⟩
                  simp only []
                  rw [h6]
                  exact bitsN_flip (spot_lt hne _)
          · split
            · refine h.sub fun m hm => ?_
              unfold NetS.lay at hm; split at hm <;> exact hm
            · split
              · refine h.sub fun m hm => ?_
                unfold NetS.lay at hm; split at hm <;> exact hm
              · exact h
theorem delM_mem {S : NetS} {k : Int} (h : S.delE k = 0) : S.delM k ∈ S.ms := by
  unfold NetS.delM
  rw [if_pos h]
  unfold NetS.delE at h
  cases ha : S.at? k with
  | none => rw [ha] at h; cases h
  | some m => exact List.mem_of_getElem? (at?_some ha).2.1
def foundK (l : List NAct) (m : Mail) (k : Nat) : Bool := (l.take k).any fun s => decide (Good s m)
theorem foundK_succ {l : List NAct} {m : Mail} {k : Nat} {s : NAct} (h : l[k]? = some s) : foundK l m (k + 1) = (foundK l m k || decide (Good s m)) := by
  unfold foundK
  obtain ⟨h1, h2⟩ := List.getElem?_eq_some_iff.1 h
  rw [List.take_succ_eq_append_getElem h1, h2, List.any_append]; simp
theorem foundK_all {l : List NAct} {m : Mail} {s : NAct} (h : s ∈ l) (hg : Good s m) : foundK l m l.length = true := by
  unfold foundK
  rw [List.take_length, List.any_eq_true]
  exact ⟨s, h, by simpa using hg⟩

set_option maxHeartbeats 2000000 in
theorem ntrue_ct {acts : List NAct} {v : Value} {h : Hp} (ha : NIns acts v h) :
    Ct Try.prog 9 [v] [h] (fun r H' => r = .bool true ∧ H' = [h]) := by
  have hs := ha.rd
  refine Ct.mk' Try.func9 rfl rfl rfl (fun g R => ?_)
  try simp only [List.cons_append]
  simp only [List.nil_append]
  repeat' (first | refine go ?_ | refine mv ?_ | (refine I.ld ?_; first | refine ld rfl ?_ | refine lE rfl (by assumption) ?_ | refine lA rfl ?_ | refine lF rfl (by assumption) ?_) | refine asg ?_ | (refine I.gd ?_; first | refine gy ?_ | refine gn ?_ | refine gnN ?_ | refine gu ?_ | refine guN ?_ | refine gT ?_ | refine gF ?_ | refine gS (fun _ => ?_) (fun _ => ?_)) | (refine I.fa ?_; first | refine fa ?_ | refine fE rfl ?_) | (refine I.nc ?_; first | refine nc ?_ | refine nE rfl ?_) | (refine I.bin ?_; first | refine cm rfl rfl ?_ | refine ad ?_ | refine su ?_ | refine np rfl rfl ?_ | refine eS ?_ | refine nS ?_) | (refine I.pk ?_; first | refine pT ?_ | refine pF ?_) | (refine I.cond ?_; first | refine cT ?_ | refine cF ?_ | refine cP ?_ | refine cN ?_) | refine mN ?_ | refine WX.nil ?_ | refine mU ?_ | refine mA ?_ | (refine I.bi ?_; first | refine ln rfl (by assumption) ?_ | refine l1 ?_ | refine lS ?_ | refine mi ?_ | refine ma ?_) | (refine I.ix ?_; first | refine ix rfl rfl ?_ | refine iI rfl rfl ?_ | refine iP ?_) | (refine I.st ?_; first | refine st rfl rfl ?_ | refine sG rfl rfl ?_) | refine ex ?_ | (refine I.un ?_; first | refine nD ?_ | refine nt ?_) | refine zY ?_ | refine bd ?_ | refine bx rfl (fun _ => ?_) | refine al (fun _ => ?_) | refine sl rfl rfl (by assumption) ?_ | refine cv rfl (by assumption) ?_)
  refine WX.callQ rfl able10_ct rfl ?_
  repeat' (first | refine go ?_ | refine mv ?_ | (refine I.ld ?_; first | refine ld rfl ?_ | refine lE rfl (by assumption) ?_ | refine lA rfl ?_ | refine lF rfl (by assumption) ?_) | refine asg ?_ | (refine I.gd ?_; first | refine gy ?_ | refine gn ?_ | refine gnN ?_ | refine gu ?_ | refine guN ?_ | refine gT ?_ | refine gF ?_ | refine gS (fun _ => ?_) (fun _ => ?_)) | (refine I.fa ?_; first | refine fa ?_ | refine fE rfl ?_) | (refine I.nc ?_; first | refine nc ?_ | refine nE rfl ?_) | (refine I.bin ?_; first | refine cm rfl rfl ?_ | refine ad ?_ | refine su ?_ | refine np rfl rfl ?_ | refine eS ?_ | refine nS ?_) | (refine I.pk ?_; first | refine pT ?_ | refine pF ?_) | (refine I.cond ?_; first | refine cT ?_ | refine cF ?_ | refine cP ?_ | refine cN ?_) | refine mN ?_ | refine WX.nil ?_ | refine mU ?_ | refine mA ?_ | (refine I.bi ?_; first | refine ln rfl (by assumption) ?_ | refine l1 ?_ | refine lS ?_ | refine mi ?_ | refine ma ?_) | (refine I.ix ?_; first | refine ix rfl rfl ?_ | refine iI rfl rfl ?_ | refine iP ?_) | (refine I.st ?_; first | refine st rfl rfl ?_ | refine sG rfl rfl ?_) | refine ex ?_ | (refine I.un ?_; first | refine nD ?_ | refine nt ?_) | refine zY ?_ | refine bd ?_ | refine bx rfl (fun _ => ?_) | refine al (fun _ => ?_) | refine sl rfl rfl (by assumption) ?_ | refine cv rfl (by assumption) ?_)
  refine WX.callQ rfl (much10_ct ha.toNIn) rfl ?_
  cases hmu : nmuch acts with
  | true =>
    repeat' (first | refine go ?_ | refine mv ?_ | (refine I.ld ?_; first | refine ld rfl ?_ | refine lE rfl (by assumption) ?_ | refine lA rfl ?_ | refine lF rfl (by assumption) ?_) | refine asg ?_ | (refine I.gd ?_; first | refine gy ?_ | refine gn ?_ | refine gnN ?_ | refine gu ?_ | refine guN ?_ | refine gT ?_ | refine gF ?_ | refine gS (fun _ => ?_) (fun _ => ?_)) | (refine I.fa ?_; first | refine fa ?_ | refine fE rfl ?_) | (refine I.nc ?_; first | refine nc ?_ | refine nE rfl ?_) | (refine I.bin ?_; first | refine cm rfl rfl ?_ | refine ad ?_ | refine su ?_ | refine np rfl rfl ?_ | refine eS ?_ | refine nS ?_) | (refine I.pk ?_; first | refine pT ?_ | refine pF ?_) | (refine I.cond ?_; first | refine cT ?_ | refine cF ?_ | refine cP ?_ | refine cN ?_) | refine mN ?_ | refine WX.nil ?_ | refine mU ?_ | refine mA ?_ | (refine I.bi ?_; first | refine ln rfl (by assumption) ?_ | refine l1 ?_ | refine lS ?_ | refine mi ?_ | refine ma ?_) | (refine I.ix ?_; first | refine ix rfl rfl ?_ | refine iI rfl rfl ?_ | refine iP ?_) | (refine I.st ?_; first | refine st rfl rfl ?_ | refine sG rfl rfl ?_) | refine ex ?_ | (refine I.un ?_; first | refine nD ?_ | refine nt ?_) | refine zY ?_ | refine bd ?_ | refine bx rfl (fun _ => ?_) | refine al (fun _ => ?_) | refine sl rfl rfl (by assumption) ?_ | refine cv rfl (by assumption) ?_)
    exact D.fin1 [h] _ rfl rfl ⟨rfl, rfl⟩
  | false =>
    have hlen := nmuch_len hmu
    repeat' (first | refine go ?_ | refine mv ?_ | (refine I.ld ?_; first | refine ld rfl ?_ | refine lE rfl (by assumption) ?_ | refine lA rfl ?_ | refine lF rfl (by assumption) ?_) | refine asg ?_ | (refine I.gd ?_; first | refine gy ?_ | refine gn ?_ | refine gnN ?_ | refine gu ?_ | refine guN ?_ | refine gT ?_ | refine gF ?_ | refine gS (fun _ => ?_) (fun _ => ?_)) | (refine I.fa ?_; first | refine fa ?_ | refine fE rfl ?_) | (refine I.nc ?_; first | refine nc ?_ | refine nE rfl ?_) | (refine I.bin ?_; first | refine cm rfl rfl ?_ | refine ad ?_ | refine su ?_ | refine np rfl rfl ?_ | refine eS ?_ | refine nS ?_) | (refine I.pk ?_; first | refine pT ?_ | refine pF ?_) | (refine I.cond ?_; first | refine cT ?_ | refine cF ?_ | refine cP ?_ | refine cN ?_) | refine mN ?_ | refine WX.nil ?_ | refine mU ?_ | refine mA ?_ | (refine I.bi ?_; first | refine ln rfl (by assumption) ?_ | refine l1 ?_ | refine lS ?_ | refine mi ?_ | refine ma ?_) | (refine I.ix ?_; first | refine ix rfl rfl ?_ | refine iI rfl rfl ?_ | refine iP ?_) | (refine I.st ?_; first | refine st rfl rfl ?_ | refine sG rfl rfl ?_) | refine ex ?_ | (refine I.un ?_; first | refine nD ?_ | refine nt ?_) | refine zY ?_ | refine bd ?_ | refine bx rfl (fun _ => ?_) | refine al (fun _ => ?_) | refine sl rfl rfl (by assumption) ?_ | refine cv rfl (by assumption) ?_)
    refine WX.call rfl nnew_ct rfl ?_
    rintro _ _ ⟨b, h0, rfl, rfl, hn0⟩
    simp only [List.cons_append, List.nil_append]
    repeat' (first | refine go ?_ | refine mv ?_ | (refine I.ld ?_; first | refine ld rfl ?_ | refine lE rfl (by assumption) ?_ | refine lA rfl ?_ | refine lF rfl (by assumption) ?_) | refine asg ?_ | (refine I.gd ?_; first | refine gy ?_ | refine gn ?_ | refine gnN ?_ | refine gu ?_ | refine guN ?_ | refine gT ?_ | refine gF ?_ | refine gS (fun _ => ?_) (fun _ => ?_)) | (refine I.fa ?_; first | refine fa ?_ | refine fE rfl ?_) | (refine I.nc ?_; first | refine nc ?_ | refine nE rfl ?_) | (refine I.bin ?_; first | refine cm rfl rfl ?_ | refine ad ?_ | refine su ?_ | refine np rfl rfl ?_ | refine eS ?_ | refine nS ?_) | (refine I.pk ?_; first | refine pT ?_ | refine pF ?_) | (refine I.cond ?_; first | refine cT ?_ | refine cF ?_ | refine cP ?_ | refine cN ?_) | refine mN ?_ | refine WX.nil ?_ | refine mU ?_ | refine mA ?_ | (refine I.bi ?_; first | refine ln rfl (by assumption) ?_ | refine l1 ?_ | refine lS ?_ | refine mi ?_ | refine ma ?_) | (refine I.ix ?_; first | refine ix rfl rfl ?_ | refine iI rfl rfl ?_ | refine iP ?_) | (refine I.st ?_; first | refine st rfl rfl ?_ | refine sG rfl rfl ?_) | refine ex ?_ | (refine I.un ?_; first | refine nD ?_ | refine nt ?_) | refine zY ?_ | refine bd ?_ | refine bx rfl (fun _ => ?_) | refine al (fun _ => ?_) | refine sl rfl rfl (by assumption) ?_ | refine cv rfl (by assumption) ?_)
    rename_i b'
    refine W.flat (H' := [RBk b' (.slice none 0 0) (fun _ _ => false) ++ [], h0, [], h, R]) rfl ?_
    refine W.loop (α := Nat × Hp × Hp × Value × Hp) (fun x => x.1 ≤ acts.length ∧ IsNet (runS acts x.1) b x.2.1 ∧ IsRNet (runS acts x.1) b' x.2.2.1 ∧ IsSl 68 (sentK acts x.1) x.2.2.2.1 x.2.2.2.2 ∧ TrueI (runS acts x.1) (sentK acts x.1))
      (fun x => [(0, v), (3, .pointer (some ⟨b, 0, none⟩)), (4, .pointer (some ⟨b', 0, none⟩)), (5, x.2.2.2.1), (6, .int .i64 (x.1 : Int))]) (fun x => [x.2.2.1, x.2.1, x.2.2.2.2, h, R]) (fun x => acts.length - x.1)
      (0, h0, RBk b' (.slice none 0 0) (fun _ _ => false) ++ [], .slice none 0 0, []) ⟨Nat.zero_le _, hn0, rnew, IsSl.nil _, fun m hm => by cases hm⟩ (by repeat (first | exact Fsub.nil | refine Fsub.cons rfl ?_)) (Hsub.of_picks inferInstance) ?_
    rintro ⟨k, h1, h2, u, hu⟩ ⟨hk, hn, hr, hus, hT⟩
    simp only [] at hk hn hr hus hT ⊢
    by_cases hlt : k < acts.length
    · obtain ⟨a, hka⟩ : ∃ a, acts[k]? = some a := ⟨_, List.getElem?_eq_getElem hlt⟩
      have hma := List.mem_of_getElem? hka
      have hS : runS acts (k + 1) = (runS acts k).act a := runS_succ hka _
      have hL := sentK_succ hka
      have hsl := sentK_len acts k
      have hT' := hT.act a
      rw [← hS, ← hL] at hT'
      have ok := runS_ok acts k
      by_cases k2 : a.kind = 2
      · have k1 : ¬ a.kind = 1 := by omega
        rw [if_neg k1] at hL
        have hSd : runS acts (k + 1) = (runS acts k).del a.k := by rw [hS]; unfold NetS.act; rw [if_neg k1, if_pos k2]
        generalize runS acts k = S at hn hr hT ok hSd hS
        rw [hL] at hT'
        rw [← hL] at hus
        repeat' (first | refine go ?_ | refine mv ?_ | (refine I.ld ?_; first | refine ld rfl ?_ | refine lE rfl (by assumption) ?_ | refine lA rfl ?_ | refine lF rfl (by assumption) ?_) | refine asg ?_ | (refine I.gd ?_; first | refine gy ?_ | refine gn ?_ | refine gnN ?_ | refine gu ?_ | refine guN ?_ | refine gT ?_ | refine gF ?_ | refine gS (fun _ => ?_) (fun _ => ?_)) | (refine I.fa ?_; first | refine fa ?_ | refine fE rfl ?_) | (refine I.nc ?_; first | refine nc ?_ | refine nE rfl ?_) | (refine I.bin ?_; first | refine cm rfl rfl ?_ | refine ad ?_ | refine su ?_ | refine np rfl rfl ?_ | refine eS ?_ | refine nS ?_) | (refine I.pk ?_; first | refine pT ?_ | refine pF ?_) | (refine I.cond ?_; first | refine cT ?_ | refine cF ?_ | refine cP ?_ | refine cN ?_) | refine mN ?_ | refine WX.nil ?_ | refine mU ?_ | refine mA ?_ | (refine I.bi ?_; first | refine ln rfl (by assumption) ?_ | refine l1 ?_ | refine lS ?_ | refine mi ?_ | refine ma ?_) | (refine I.ix ?_; first | refine ix rfl rfl ?_ | refine iI rfl rfl ?_ | refine iP ?_) | (refine I.st ?_; first | refine st rfl rfl ?_ | refine sG rfl rfl ?_) | refine ex ?_ | (refine I.un ?_; first | refine nD ?_ | refine nt ?_) | refine zY ?_ | refine bd ?_ | refine bx rfl (fun _ => ?_) | refine al (fun _ => ?_) | refine sl rfl rfl (by assumption) ?_ | refine cv rfl (by assumption) ?_)
        refine WX.call rfl (deliver_ct hn ok a.k) rfl ?_
        rintro _ _ ⟨h3, hb3, u3, rfl, rfl, hn3, hs3⟩
        rw [← hSd] at hn3
        have hr3 := hs3.rs
        simp only [List.cons_append, List.nil_append]
        repeat' (first | refine go ?_ | refine mv ?_ | (refine I.ld ?_; first | refine ld rfl ?_ | refine lE rfl (by assumption) ?_ | refine lA rfl ?_ | refine lF rfl (by assumption) ?_) | refine asg ?_ | (refine I.gd ?_; first | refine gy ?_ | refine gn ?_ | refine gnN ?_ | refine gu ?_ | refine guN ?_ | refine gT ?_ | refine gF ?_ | refine gS (fun _ => ?_) (fun _ => ?_)) | (refine I.fa ?_; first | refine fa ?_ | refine fE rfl ?_) | (refine I.nc ?_; first | refine nc ?_ | refine nE rfl ?_) | (refine I.bin ?_; first | refine cm rfl rfl ?_ | refine ad ?_ | refine su ?_ | refine np rfl rfl ?_ | refine eS ?_ | refine nS ?_) | (refine I.pk ?_; first | refine pT ?_ | refine pF ?_) | (refine I.cond ?_; first | refine cT ?_ | refine cF ?_ | refine cP ?_ | refine cN ?_) | refine mN ?_ | refine WX.nil ?_ | refine mU ?_ | refine mA ?_ | (refine I.bi ?_; first | refine ln rfl (by assumption) ?_ | refine l1 ?_ | refine lS ?_ | refine mi ?_ | refine ma ?_) | (refine I.ix ?_; first | refine ix rfl rfl ?_ | refine iI rfl rfl ?_ | refine iP ?_) | (refine I.st ?_; first | refine st rfl rfl ?_ | refine sG rfl rfl ?_) | refine ex ?_ | (refine I.un ?_; first | refine nD ?_ | refine nt ?_) | refine zY ?_ | refine bd ?_ | refine bx rfl (fun _ => ?_) | refine al (fun _ => ?_) | refine sl rfl rfl (by assumption) ?_ | refine cv rfl (by assumption) ?_)
        refine WX.call rfl (rdeliver_ct hr ok a.k) rfl ?_
        rintro _ _ ⟨h4, rfl, rfl, hr4⟩
        rw [← hSd] at hr4
        simp only [List.cons_append, List.nil_append]
        by_cases hE : S.delE a.k = 0
        · have hmem := delM_mem hE
          obtain ⟨s, hs1, hs2, _⟩ := hT _ hmem
          have hfa := foundK_all hs1 hs2
          generalize S.delM a.k = M at hr3 hfa
          generalize sentK acts k = l at hfa hs1 hT' hL hsl
          rw [hL] at hus
          have hur := hus.rs
          have hlm : ∀ a ∈ l, a ∈ acts := fun a h => sentK_mem (k + 1) a (by rw [hL]; exact h)
          repeat' (first | refine go ?_ | refine mv ?_ | (refine I.ld ?_; first | refine ld rfl ?_ | refine lE rfl (by assumption) ?_ | refine lA rfl ?_ | refine lF rfl (by assumption) ?_) | refine asg ?_ | (refine I.gd ?_; first | refine gy ?_ | refine gn ?_ | refine gnN ?_ | refine gu ?_ | refine guN ?_ | refine gT ?_ | refine gF ?_ | refine gS (fun _ => ?_) (fun _ => ?_)) | (refine I.fa ?_; first | refine fa ?_ | refine fE rfl ?_) | (refine I.nc ?_; first | refine nc ?_ | refine nE rfl ?_) | (refine I.bin ?_; first | refine cm rfl rfl ?_ | refine ad ?_ | refine su ?_ | refine np rfl rfl ?_ | refine eS ?_ | refine nS ?_) | (refine I.pk ?_; first | refine pT ?_ | refine pF ?_) | (refine I.cond ?_; first | refine cT ?_ | refine cF ?_ | refine cP ?_ | refine cN ?_) | refine mN ?_ | refine WX.nil ?_ | refine mU ?_ | refine mA ?_ | (refine I.bi ?_; first | refine ln rfl (by assumption) ?_ | refine l1 ?_ | refine lS ?_ | refine mi ?_ | refine ma ?_) | (refine I.ix ?_; first | refine ix rfl rfl ?_ | refine iI rfl rfl ?_ | refine iP ?_) | (refine I.st ?_; first | refine st rfl rfl ?_ | refine sG rfl rfl ?_) | refine ex ?_ | (refine I.un ?_; first | refine nD ?_ | refine nt ?_) | refine zY ?_ | refine bd ?_ | refine bx rfl (fun _ => ?_) | refine al (fun _ => ?_) | refine sl rfl rfl (by assumption) ?_ | refine cv rfl (by assumption) ?_)
          rename_i b7 b8 b9 _
          refine W.loop (α := Nat) (fun j => j ≤ l.length)
            (fun j => [(0, v), (3, .pointer (some ⟨b, 0, none⟩)), (4, .pointer (some ⟨b', 0, none⟩)), (5, u), (6, .int .i64 (k : Int)), (8, .pointer (some ⟨b8, 0, none⟩)), (9, .pointer (some ⟨b9, 0, none⟩)), (10, u3), (12, .bool (foundK l M j)), (13, .int .i64 (j : Int))])
            (fun _ => [h4, [(b9, .cells (List.toArray (Enc.enc M.t)) 65 (0, 0))], [(b8, .cells (List.toArray (Enc.enc M.f)) 65 (0, 0))], h3, hb3, hu, h, R]) (fun j => l.length - j) 0 (Nat.zero_le _) (by repeat (first | exact Fsub.nil | refine Fsub.cons rfl ?_)) (Hsub.of_picks inferInstance) ?_
          intro j hj
          by_cases hlt2 : j < l.length
          · obtain ⟨s', hs'⟩ : ∃ s', l[j]? = some s' := ⟨_, List.getElem?_eq_getElem hlt2⟩
            have hsm := hlm _ (List.mem_of_getElem? hs')
            have hbc := bits_ct (ha.by' s' hsm) hr3 (by have := nmuch_bl hmu hsm; omega)
            have hfs := foundK_succ (m := M) hs'
            repeat' (first | refine go ?_ | refine mv ?_ | (refine I.ld ?_; first | refine ld rfl ?_ | refine lE rfl (by assumption) ?_ | refine lA rfl ?_ | refine lF rfl (by assumption) ?_) | refine asg ?_ | (refine I.gd ?_; first | refine gy ?_ | refine gn ?_ | refine gnN ?_ | refine gu ?_ | refine guN ?_ | refine gT ?_ | refine gF ?_ | refine gS (fun _ => ?_) (fun _ => ?_)) | (refine I.fa ?_; first | refine fa ?_ | refine fE rfl ?_) | (refine I.nc ?_; first | refine nc ?_ | refine nE rfl ?_) | (refine I.bin ?_; first | refine cm rfl rfl ?_ | refine ad ?_ | refine su ?_ | refine np rfl rfl ?_ | refine eS ?_ | refine nS ?_) | (refine I.pk ?_; first | refine pT ?_ | refine pF ?_) | (refine I.cond ?_; first | refine cT ?_ | refine cF ?_ | refine cP ?_ | refine cN ?_) | refine mN ?_ | refine WX.nil ?_ | refine mU ?_ | refine mA ?_ | (refine I.bi ?_; first | refine ln rfl (by assumption) ?_ | refine l1 ?_ | refine lS ?_ | refine mi ?_ | refine ma ?_) | (refine I.ix ?_; first | refine ix rfl rfl ?_ | refine iI rfl rfl ?_ | refine iP ?_) | (refine I.st ?_; first | refine st rfl rfl ?_ | refine sG rfl rfl ?_) | refine ex ?_ | (refine I.un ?_; first | refine nD ?_ | refine nt ?_) | refine zY ?_ | refine bd ?_ | refine bx rfl (fun _ => ?_) | refine al (fun _ => ?_) | refine sl rfl rfl (by assumption) ?_ | refine cv rfl (by assumption) ?_)
            refine W.quiet Try.mix (by kernel_rfl) ?_
            by_cases e1 : s'.f = M.f
            · by_cases e2 : s'.t = M.t
              · by_cases e3 : (bitsN s'.b M.b : Int) ≤ 1
                · have hg : Good s' M := ⟨e1, e2, by omega⟩
                  repeat' (first | refine go ?_ | refine mv ?_ | (refine I.ld ?_; first | refine ld rfl ?_ | refine lE rfl (by assumption) ?_ | refine lA rfl ?_ | refine lF rfl (by assumption) ?_) | refine asg ?_ | (refine I.gd ?_; first | refine gy ?_ | refine gn ?_ | refine gnN ?_ | refine gu ?_ | refine guN ?_ | refine gT ?_ | refine gF ?_ | refine gS (fun _ => ?_) (fun _ => ?_)) | (refine I.fa ?_; first | refine fa ?_ | refine fE rfl ?_) | (refine I.nc ?_; first | refine nc ?_ | refine nE rfl ?_) | (refine I.bin ?_; first | refine cm rfl rfl ?_ | refine ad ?_ | refine su ?_ | refine np rfl rfl ?_ | refine eS ?_ | refine nS ?_) | (refine I.pk ?_; first | refine pT ?_ | refine pF ?_) | (refine I.cond ?_; first | refine cT ?_ | refine cF ?_ | refine cP ?_ | refine cN ?_) | refine mN ?_ | refine WX.nil ?_ | refine mU ?_ | refine mA ?_ | (refine I.bi ?_; first | refine ln rfl (by assumption) ?_ | refine l1 ?_ | refine lS ?_ | refine mi ?_ | refine ma ?_) | (refine I.ix ?_; first | refine ix rfl rfl ?_ | refine iI rfl rfl ?_ | refine iP ?_) | (refine I.st ?_; first | refine st rfl rfl ?_ | refine sG rfl rfl ?_) | refine ex ?_ | (refine I.un ?_; first | refine nD ?_ | refine nt ?_) | refine zY ?_ | refine bd ?_ | refine bx rfl (fun _ => ?_) | refine al (fun _ => ?_) | refine sl rfl rfl (by assumption) ?_ | refine cv rfl (by assumption) ?_ | (refine I.bin ?_; first | refine WX.eqlA rfl rfl (ad_eq s'.f M.f) rfl ?_ | refine WX.eqlA rfl rfl (ad_eq s'.t M.t) rfl ?_) | (refine I.cl ?_; refine WX.callQ rfl hbc rfl ?_))
                  refine D.as 12 (.bool (foundK l M (j + 1))) rfl (by rw [hfs]; simp [hg]) ?_
                  exact D.round (j + 1) (by omega) (by omega) (by repeat (first | exact Fsub.nil | refine Fsub.cons rfl ?_)) (Hsub.of_picks inferInstance)
                · have hg : ¬ Good s' M := fun h => e3 (by have := h.2.2; omega)
                  repeat' (first | refine go ?_ | refine mv ?_ | (refine I.ld ?_; first | refine ld rfl ?_ | refine lE rfl (by assumption) ?_ | refine lA rfl ?_ | refine lF rfl (by assumption) ?_) | refine asg ?_ | (refine I.gd ?_; first | refine gy ?_ | refine gn ?_ | refine gnN ?_ | refine gu ?_ | refine guN ?_ | refine gT ?_ | refine gF ?_ | refine gS (fun _ => ?_) (fun _ => ?_)) | (refine I.fa ?_; first | refine fa ?_ | refine fE rfl ?_) | (refine I.nc ?_; first | refine nc ?_ | refine nE rfl ?_) | (refine I.bin ?_; first | refine cm rfl rfl ?_ | refine ad ?_ | refine su ?_ | refine np rfl rfl ?_ | refine eS ?_ | refine nS ?_) | (refine I.pk ?_; first | refine pT ?_ | refine pF ?_) | (refine I.cond ?_; first | refine cT ?_ | refine cF ?_ | refine cP ?_ | refine cN ?_) | refine mN ?_ | refine WX.nil ?_ | refine mU ?_ | refine mA ?_ | (refine I.bi ?_; first | refine ln rfl (by assumption) ?_ | refine l1 ?_ | refine lS ?_ | refine mi ?_ | refine ma ?_) | (refine I.ix ?_; first | refine ix rfl rfl ?_ | refine iI rfl rfl ?_ | refine iP ?_) | (refine I.st ?_; first | refine st rfl rfl ?_ | refine sG rfl rfl ?_) | refine ex ?_ | (refine I.un ?_; first | refine nD ?_ | refine nt ?_) | refine zY ?_ | refine bd ?_ | refine bx rfl (fun _ => ?_) | refine al (fun _ => ?_) | refine sl rfl rfl (by assumption) ?_ | refine cv rfl (by assumption) ?_ | (refine I.bin ?_; first | refine WX.eqlA rfl rfl (ad_eq s'.f M.f) rfl ?_ | refine WX.eqlA rfl rfl (ad_eq s'.t M.t) rfl ?_) | (refine I.cl ?_; refine WX.callQ rfl hbc rfl ?_))
                  refine D.as 12 (.bool (foundK l M (j + 1))) rfl (by rw [hfs]; simp [hg]) ?_
                  exact D.round (j + 1) (by omega) (by omega) (by repeat (first | exact Fsub.nil | refine Fsub.cons rfl ?_)) (Hsub.of_picks inferInstance)
              · have hg : ¬ Good s' M := fun h => e2 h.2.1
                repeat' (first | refine go ?_ | refine mv ?_ | (refine I.ld ?_; first | refine ld rfl ?_ | refine lE rfl (by assumption) ?_ | refine lA rfl ?_ | refine lF rfl (by assumption) ?_) | refine asg ?_ | (refine I.gd ?_; first | refine gy ?_ | refine gn ?_ | refine gnN ?_ | refine gu ?_ | refine guN ?_ | refine gT ?_ | refine gF ?_ | refine gS (fun _ => ?_) (fun _ => ?_)) | (refine I.fa ?_; first | refine fa ?_ | refine fE rfl ?_) | (refine I.nc ?_; first | refine nc ?_ | refine nE rfl ?_) | (refine I.bin ?_; first | refine cm rfl rfl ?_ | refine ad ?_ | refine su ?_ | refine np rfl rfl ?_ | refine eS ?_ | refine nS ?_) | (refine I.pk ?_; first | refine pT ?_ | refine pF ?_) | (refine I.cond ?_; first | refine cT ?_ | refine cF ?_ | refine cP ?_ | refine cN ?_) | refine mN ?_ | refine WX.nil ?_ | refine mU ?_ | refine mA ?_ | (refine I.bi ?_; first | refine ln rfl (by assumption) ?_ | refine l1 ?_ | refine lS ?_ | refine mi ?_ | refine ma ?_) | (refine I.ix ?_; first | refine ix rfl rfl ?_ | refine iI rfl rfl ?_ | refine iP ?_) | (refine I.st ?_; first | refine st rfl rfl ?_ | refine sG rfl rfl ?_) | refine ex ?_ | (refine I.un ?_; first | refine nD ?_ | refine nt ?_) | refine zY ?_ | refine bd ?_ | refine bx rfl (fun _ => ?_) | refine al (fun _ => ?_) | refine sl rfl rfl (by assumption) ?_ | refine cv rfl (by assumption) ?_ | (refine I.bin ?_; first | refine WX.eqlA rfl rfl (ad_eq s'.f M.f) rfl ?_ | refine WX.eqlA rfl rfl (ad_eq s'.t M.t) rfl ?_) | (refine I.cl ?_; refine WX.callQ rfl hbc rfl ?_))
                refine D.as 12 (.bool (foundK l M (j + 1))) rfl (by rw [hfs]; simp [hg]) ?_
                exact D.round (j + 1) (by omega) (by omega) (by repeat (first | exact Fsub.nil | refine Fsub.cons rfl ?_)) (Hsub.of_picks inferInstance)
            · have hg : ¬ Good s' M := fun h => e1 h.1
              repeat' (first | refine go ?_ | refine mv ?_ | (refine I.ld ?_; first | refine ld rfl ?_ | refine lE rfl (by assumption) ?_ | refine lA rfl ?_ | refine lF rfl (by assumption) ?_) | refine asg ?_ | (refine I.gd ?_; first | refine gy ?_ | refine gn ?_ | refine gnN ?_ | refine gu ?_ | refine guN ?_ | refine gT ?_ | refine gF ?_ | refine gS (fun _ => ?_) (fun _ => ?_)) | (refine I.fa ?_; first | refine fa ?_ | refine fE rfl ?_) | (refine I.nc ?_; first | refine nc ?_ | refine nE rfl ?_) | (refine I.bin ?_; first | refine cm rfl rfl ?_ | refine ad ?_ | refine su ?_ | refine np rfl rfl ?_ | refine eS ?_ | refine nS ?_) | (refine I.pk ?_; first | refine pT ?_ | refine pF ?_) | (refine I.cond ?_; first | refine cT ?_ | refine cF ?_ | refine cP ?_ | refine cN ?_) | refine mN ?_ | refine WX.nil ?_ | refine mU ?_ | refine mA ?_ | (refine I.bi ?_; first | refine ln rfl (by assumption) ?_ | refine l1 ?_ | refine lS ?_ | refine mi ?_ | refine ma ?_) | (refine I.ix ?_; first | refine ix rfl rfl ?_ | refine iI rfl rfl ?_ | refine iP ?_) | (refine I.st ?_; first | refine st rfl rfl ?_ | refine sG rfl rfl ?_) | refine ex ?_ | (refine I.un ?_; first | refine nD ?_ | refine nt ?_) | refine zY ?_ | refine bd ?_ | refine bx rfl (fun _ => ?_) | refine al (fun _ => ?_) | refine sl rfl rfl (by assumption) ?_ | refine cv rfl (by assumption) ?_ | (refine I.bin ?_; first | refine WX.eqlA rfl rfl (ad_eq s'.f M.f) rfl ?_ | refine WX.eqlA rfl rfl (ad_eq s'.t M.t) rfl ?_) | (refine I.cl ?_; refine WX.callQ rfl hbc rfl ?_))
              refine D.as 12 (.bool (foundK l M (j + 1))) rfl (by rw [hfs]; simp [hg]) ?_
              exact D.round (j + 1) (by omega) (by omega) (by repeat (first | exact Fsub.nil | refine Fsub.cons rfl ?_)) (Hsub.of_picks inferInstance)
          · obtain rfl : j = l.length := by omega
            refine W.as 12 (.bool true) rfl (by rw [hfa]) ?_
            repeat' (first | refine go ?_ | refine mv ?_ | (refine I.ld ?_; first | refine ld rfl ?_ | refine lE rfl (by assumption) ?_ | refine lA rfl ?_ | refine lF rfl (by assumption) ?_) | refine asg ?_ | (refine I.gd ?_; first | refine gy ?_ | refine gn ?_ | refine gnN ?_ | refine gu ?_ | refine guN ?_ | refine gT ?_ | refine gF ?_ | refine gS (fun _ => ?_) (fun _ => ?_)) | (refine I.fa ?_; first | refine fa ?_ | refine fE rfl ?_) | (refine I.nc ?_; first | refine nc ?_ | refine nE rfl ?_) | (refine I.bin ?_; first | refine cm rfl rfl ?_ | refine ad ?_ | refine su ?_ | refine np rfl rfl ?_ | refine eS ?_ | refine nS ?_) | (refine I.pk ?_; first | refine pT ?_ | refine pF ?_) | (refine I.cond ?_; first | refine cT ?_ | refine cF ?_ | refine cP ?_ | refine cN ?_) | refine mN ?_ | refine WX.nil ?_ | refine mU ?_ | refine mA ?_ | (refine I.bi ?_; first | refine ln rfl (by assumption) ?_ | refine l1 ?_ | refine lS ?_ | refine mi ?_ | refine ma ?_) | (refine I.ix ?_; first | refine ix rfl rfl ?_ | refine iI rfl rfl ?_ | refine iP ?_) | (refine I.st ?_; first | refine st rfl rfl ?_ | refine sG rfl rfl ?_) | refine ex ?_ | (refine I.un ?_; first | refine nD ?_ | refine nt ?_) | refine zY ?_ | refine bd ?_ | refine bx rfl (fun _ => ?_) | refine al (fun _ => ?_) | refine sl rfl rfl (by assumption) ?_ | refine cv rfl (by assumption) ?_)
            exact D.round (k + 1, h3, h4, u, hu) ⟨by simp only []; omega, hn3, hr4, by simpa only [hL] using hus, by simpa only [hL] using hT'⟩ (by simp only []; omega) (by repeat (first | exact Fsub.nil | refine Fsub.cons rfl ?_)) (Hsub.of_picks inferInstance)
        · repeat' (first | refine go ?_ | refine mv ?_ | (refine I.ld ?_; first | refine ld rfl ?_ | refine lE rfl (by assumption) ?_ | refine lA rfl ?_ | refine lF rfl (by assumption) ?_) | refine asg ?_ | (refine I.gd ?_; first | refine gy ?_ | refine gn ?_ | refine gnN ?_ | refine gu ?_ | refine guN ?_ | refine gT ?_ | refine gF ?_ | refine gS (fun _ => ?_) (fun _ => ?_)) | (refine I.fa ?_; first | refine fa ?_ | refine fE rfl ?_) | (refine I.nc ?_; first | refine nc ?_ | refine nE rfl ?_) | (refine I.bin ?_; first | refine cm rfl rfl ?_ | refine ad ?_ | refine su ?_ | refine np rfl rfl ?_ | refine eS ?_ | refine nS ?_) | (refine I.pk ?_; first | refine pT ?_ | refine pF ?_) | (refine I.cond ?_; first | refine cT ?_ | refine cF ?_ | refine cP ?_ | refine cN ?_) | refine mN ?_ | refine WX.nil ?_ | refine mU ?_ | refine mA ?_ | (refine I.bi ?_; first | refine ln rfl (by assumption) ?_ | refine l1 ?_ | refine lS ?_ | refine mi ?_ | refine ma ?_) | (refine I.ix ?_; first | refine ix rfl rfl ?_ | refine iI rfl rfl ?_ | refine iP ?_) | (refine I.st ?_; first | refine st rfl rfl ?_ | refine sG rfl rfl ?_) | refine ex ?_ | (refine I.un ?_; first | refine nD ?_ | refine nt ?_) | refine zY ?_ | refine bd ?_ | refine bx rfl (fun _ => ?_) | refine al (fun _ => ?_) | refine sl rfl rfl (by assumption) ?_ | refine cv rfl (by assumption) ?_)
          exact D.round (k + 1, h3, h4, u, hu) ⟨by simp only []; omega, hn3, hr4, hus, by simpa only [hL] using hT'⟩ (by simp only []; omega) (by repeat (first | exact Fsub.nil | refine Fsub.cons rfl ?_)) (Hsub.of_picks inferInstance)
      · repeat' (first | refine go ?_ | refine mv ?_ | (refine I.ld ?_; first | refine ld rfl ?_ | refine lE rfl (by assumption) ?_ | refine lA rfl ?_ | refine lF rfl (by assumption) ?_) | refine asg ?_ | (refine I.gd ?_; first | refine gy ?_ | refine gn ?_ | refine gnN ?_ | refine gu ?_ | refine guN ?_ | refine gT ?_ | refine gF ?_ | refine gS (fun _ => ?_) (fun _ => ?_)) | (refine I.fa ?_; first | refine fa ?_ | refine fE rfl ?_) | (refine I.nc ?_; first | refine nc ?_ | refine nE rfl ?_) | (refine I.bin ?_; first | refine cm rfl rfl ?_ | refine ad ?_ | refine su ?_ | refine np rfl rfl ?_ | refine eS ?_ | refine nS ?_) | (refine I.pk ?_; first | refine pT ?_ | refine pF ?_) | (refine I.cond ?_; first | refine cT ?_ | refine cF ?_ | refine cP ?_ | refine cN ?_) | refine mN ?_ | refine WX.nil ?_ | refine mU ?_ | refine mA ?_ | (refine I.bi ?_; first | refine ln rfl (by assumption) ?_ | refine l1 ?_ | refine lS ?_ | refine mi ?_ | refine ma ?_) | (refine I.ix ?_; first | refine ix rfl rfl ?_ | refine iI rfl rfl ?_ | refine iP ?_) | (refine I.st ?_; first | refine st rfl rfl ?_ | refine sG rfl rfl ?_) | refine ex ?_ | (refine I.un ?_; first | refine nD ?_ | refine nt ?_) | refine zY ?_ | refine bd ?_ | refine bx rfl (fun _ => ?_) | refine al (fun _ => ?_) | refine sl rfl rfl (by assumption) ?_ | refine cv rfl (by assumption) ?_)
        refine WX.call rfl (act_ct hn hr ok a (ha.by' a hma) (nmuch_bl hmu hma)) rfl ?_
        rintro _ _ ⟨h5, h6, rfl, rfl, hn', hr'⟩
        rw [← hS] at hn' hr'
        simp only [List.cons_append, List.nil_append]
        by_cases k1 : a.kind = 1
        · rw [if_pos k1] at hL
          repeat' (first | refine go ?_ | refine mv ?_ | (refine I.ld ?_; first | refine ld rfl ?_ | refine lE rfl (by assumption) ?_ | refine lA rfl ?_ | refine lF rfl (by assumption) ?_) | refine asg ?_ | (refine I.gd ?_; first | refine gy ?_ | refine gn ?_ | refine gnN ?_ | refine gu ?_ | refine guN ?_ | refine gT ?_ | refine gF ?_ | refine gS (fun _ => ?_) (fun _ => ?_)) | (refine I.fa ?_; first | refine fa ?_ | refine fE rfl ?_) | (refine I.nc ?_; first | refine nc ?_ | refine nE rfl ?_) | (refine I.bin ?_; first | refine cm rfl rfl ?_ | refine ad ?_ | refine su ?_ | refine np rfl rfl ?_ | refine eS ?_ | refine nS ?_) | (refine I.pk ?_; first | refine pT ?_ | refine pF ?_) | (refine I.cond ?_; first | refine cT ?_ | refine cF ?_ | refine cP ?_ | refine cN ?_) | refine mN ?_ | refine WX.nil ?_ | refine mU ?_ | refine mA ?_ | (refine I.bi ?_; first | refine ln rfl (by assumption) ?_ | refine l1 ?_ | refine lS ?_ | refine mi ?_ | refine ma ?_) | (refine I.ix ?_; first | refine ix rfl rfl ?_ | refine iI rfl rfl ?_ | refine iP ?_) | (refine I.st ?_; first | refine st rfl rfl ?_ | refine sG rfl rfl ?_) | refine ex ?_ | (refine I.un ?_; first | refine nD ?_ | refine nt ?_) | refine zY ?_ | refine bd ?_ | refine bx rfl (fun _ => ?_) | refine al (fun _ => ?_) | refine sl rfl rfl (by assumption) ?_ | refine cv rfl (by assumption) ?_)
          refine I.bs ?_
          refine WX.lit (ys := [a]) rfl rfl rfl rfl rfl rfl (by decide) rfl (fun v7 h7 hs7 => ?_)
          refine WX.app rfl rfl hus hs7.rs rfl rfl (by decide) (by simp only [List.length_cons, List.length_nil]; omega) rfl (fun v8 h8 hs8 => ?_)
          rw [← hL] at hs8
          repeat' (first | refine go ?_ | refine mv ?_ | (refine I.ld ?_; first | refine ld rfl ?_ | refine lE rfl (by assumption) ?_ | refine lA rfl ?_ | refine lF rfl (by assumption) ?_) | refine asg ?_ | (refine I.gd ?_; first | refine gy ?_ | refine gn ?_ | refine gnN ?_ | refine gu ?_ | refine guN ?_ | refine gT ?_ | refine gF ?_ | refine gS (fun _ => ?_) (fun _ => ?_)) | (refine I.fa ?_; first | refine fa ?_ | refine fE rfl ?_) | (refine I.nc ?_; first | refine nc ?_ | refine nE rfl ?_) | (refine I.bin ?_; first | refine cm rfl rfl ?_ | refine ad ?_ | refine su ?_ | refine np rfl rfl ?_ | refine eS ?_ | refine nS ?_) | (refine I.pk ?_; first | refine pT ?_ | refine pF ?_) | (refine I.cond ?_; first | refine cT ?_ | refine cF ?_ | refine cP ?_ | refine cN ?_) | refine mN ?_ | refine WX.nil ?_ | refine mU ?_ | refine mA ?_ | (refine I.bi ?_; first | refine ln rfl (by assumption) ?_ | refine l1 ?_ | refine lS ?_ | refine mi ?_ | refine ma ?_) | (refine I.ix ?_; first | refine ix rfl rfl ?_ | refine iI rfl rfl ?_ | refine iP ?_) | (refine I.st ?_; first | refine st rfl rfl ?_ | refine sG rfl rfl ?_) | refine ex ?_ | (refine I.un ?_; first | refine nD ?_ | refine nt ?_) | refine zY ?_ | refine bd ?_ | refine bx rfl (fun _ => ?_) | refine al (fun _ => ?_) | refine sl rfl rfl (by assumption) ?_ | refine cv rfl (by assumption) ?_)
          exact D.round (k + 1, h5, h6, v8, h8) ⟨by simp only []; omega, hn', hr', hs8, hT'⟩ (by simp only []; omega) (by repeat (first | exact Fsub.nil | refine Fsub.cons rfl ?_)) (Hsub.of_picks inferInstance)
        · rw [if_neg k1] at hL
          rw [← hL] at hus
          repeat' (first | refine go ?_ | refine mv ?_ | (refine I.ld ?_; first | refine ld rfl ?_ | refine lE rfl (by assumption) ?_ | refine lA rfl ?_ | refine lF rfl (by assumption) ?_) | refine asg ?_ | (refine I.gd ?_; first | refine gy ?_ | refine gn ?_ | refine gnN ?_ | refine gu ?_ | refine guN ?_ | refine gT ?_ | refine gF ?_ | refine gS (fun _ => ?_) (fun _ => ?_)) | (refine I.fa ?_; first | refine fa ?_ | refine fE rfl ?_) | (refine I.nc ?_; first | refine nc ?_ | refine nE rfl ?_) | (refine I.bin ?_; first | refine cm rfl rfl ?_ | refine ad ?_ | refine su ?_ | refine np rfl rfl ?_ | refine eS ?_ | refine nS ?_) | (refine I.pk ?_; first | refine pT ?_ | refine pF ?_) | (refine I.cond ?_; first | refine cT ?_ | refine cF ?_ | refine cP ?_ | refine cN ?_) | refine mN ?_ | refine WX.nil ?_ | refine mU ?_ | refine mA ?_ | (refine I.bi ?_; first | refine ln rfl (by assumption) ?_ | refine l1 ?_ | refine lS ?_ | refine mi ?_ | refine ma ?_) | (refine I.ix ?_; first | refine ix rfl rfl ?_ | refine iI rfl rfl ?_ | refine iP ?_) | (refine I.st ?_; first | refine st rfl rfl ?_ | refine sG rfl rfl ?_) | refine ex ?_ | (refine I.un ?_; first | refine nD ?_ | refine nt ?_) | refine zY ?_ | refine bd ?_ | refine bx rfl (fun _ => ?_) | refine al (fun _ => ?_) | refine sl rfl rfl (by assumption) ?_ | refine cv rfl (by assumption) ?_)
          exact D.round (k + 1, h5, h6, u, hu) ⟨by simp only []; omega, hn', hr', hus, hT'⟩ (by simp only []; omega) (by repeat (first | exact Fsub.nil | refine Fsub.cons rfl ?_)) (Hsub.of_picks inferInstance)
    · repeat' (first | refine go ?_ | refine mv ?_ | (refine I.ld ?_; first | refine ld rfl ?_ | refine lE rfl (by assumption) ?_ | refine lA rfl ?_ | refine lF rfl (by assumption) ?_) | refine asg ?_ | (refine I.gd ?_; first | refine gy ?_ | refine gn ?_ | refine gnN ?_ | refine gu ?_ | refine guN ?_ | refine gT ?_ | refine gF ?_ | refine gS (fun _ => ?_) (fun _ => ?_)) | (refine I.fa ?_; first | refine fa ?_ | refine fE rfl ?_) | (refine I.nc ?_; first | refine nc ?_ | refine nE rfl ?_) | (refine I.bin ?_; first | refine cm rfl rfl ?_ | refine ad ?_ | refine su ?_ | refine np rfl rfl ?_ | refine eS ?_ | refine nS ?_) | (refine I.pk ?_; first | refine pT ?_ | refine pF ?_) | (refine I.cond ?_; first | refine cT ?_ | refine cF ?_ | refine cP ?_ | refine cN ?_) | refine mN ?_ | refine WX.nil ?_ | refine mU ?_ | refine mA ?_ | (refine I.bi ?_; first | refine ln rfl (by assumption) ?_ | refine l1 ?_ | refine lS ?_ | refine mi ?_ | refine ma ?_) | (refine I.ix ?_; first | refine ix rfl rfl ?_ | refine iI rfl rfl ?_ | refine iP ?_) | (refine I.st ?_; first | refine st rfl rfl ?_ | refine sG rfl rfl ?_) | refine ex ?_ | (refine I.un ?_; first | refine nD ?_ | refine nt ?_) | refine zY ?_ | refine bd ?_ | refine bx rfl (fun _ => ?_) | refine al (fun _ => ?_) | refine sl rfl rfl (by assumption) ?_ | refine cv rfl (by assumption) ?_)
      exact D.fin1 [h] _ rfl rfl ⟨rfl, rfl⟩

set_option maxRecDepth 100000 in
theorem netTrue_lifted (os : Os) (started : os.Started) (H : Type) (enc : TypeId × Value → H) :
    ReturnsInHanded {} Try.checked os 9 .any (Rows.netTrueSpec.pre6 enc Try.prog Try.f9 Rows.netTrueRow.domain false) (Rows.netTrueSpec.post enc Try.prog Try.f9 false true false false) := by
  refine law_lifted (C := Try.checked) (tb := 4) Try.own started (by kernel_rfl) Try.func9
    (ChangeSpec.witness6 (enc := enc) (C := Try.checked) false ⟨#[], #[.slice none 0 0], []⟩ 8 (by kernel_rfl) (by kernel_rfl) (by kernel_rfl) (by kernel_rfl))
    Try.laidOut (by kernel_rfl) rfl Try.underlying4 rfl (fun ds hd => match ds, hd with | [_], _ => ⟨rfl, rfl, rfl⟩) ?_
  intro W base args ds p hval0 hA0 hwt0
  have hval : ∀ (j : Nat) t v, Try.f9.params[j]? = some t → args[j]? = some v → Value.okWide Try.prog W .any base t v := hval0
  have hA : DataW.TrodAll enc Try.prog W 0 (fun _ => true) true Try.f9.params.toList args.toList ds p := hA0
  have hwt : ∀ l ∈ DataW.weightsEach Try.prog Try.f9.params.toList ds, l ≤ reachBytes := hwt0
  clear hval0 hA0 hwt0
  rw [Try.params9] at hA hval hwt
  obtain ⟨v0, d0, rfl, rfl, h0⟩ := ChangeShapes.trodAll_one hA
  obtain ⟨acts, ha, hk, hl⟩ := arg_slice (by kernel_rfl) rd_nact (hval 0 58 v0 rfl rfl) h0 (weights_each hwt (i := 0) rfl rfl)
  exact law_calls (ntrue_ct (nacts_in ha hk hl))

theorem netTrue_holds : Rows.NetTrueSaid :=
  OpenClaim.holds_of_wide 9 Try.f9 rfl rfl rfl rfl rfl rfl rfl ⟨rfl, rfl, rfl, rfl, rfl⟩ rfl rfl rfl rfl rfl (by kernel_rfl) Try.func9 (by kernel_rfl)
    (of_decide_eq_true (by kernel_rfl)) (by unfold Func.isWrapper; first | (rw [if_pos (by decide +kernel)]; kernel_rfl) | (rw [if_neg (by decide +kernel)]; exact ⟨rfl, rfl⟩))
    (fun os started H enc _ => netTrue_lifted os started H enc)
end Go.Proofs.Ytllopddalmdbjaa
