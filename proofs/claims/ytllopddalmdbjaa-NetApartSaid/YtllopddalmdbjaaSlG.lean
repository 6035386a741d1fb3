/-
  A region that draws its order: operations that only read a part of memory that nobody writes may stand anywhere among the others; the others ('anchored') are in a chain.
-/
import Derived.Test.YtllopddalmdbjaaSlF
set_option linter.unusedVariables false
set_option linter.unusedSimpArgs false
namespace Go.Sl
open Go

section
variable {P : Program} {ops : Array Oper} {md : Region.Mode} {C : World → Prop}

def UnY (P : Program) (ops : Array Oper) (C : World → Prop) (o : Oper) (v : Value) (a : Act) : Prop :=
  (Region.wanted o (yielded ops a.tmps) = true ∧ ∀ w, C w → (execOp a.eval o).run P w = .ok (.value v) w) ∨ (Region.wanted o (yielded ops a.tmps) = false ∧ v = undef)

def AnR (P : Program) (ops : Array Oper) (o : Oper) (K : Value → World → Prop) (a : Act) (w : World) : Prop :=
  (Region.wanted o (yielded ops a.tmps) = false ∧ K undef w) ∨
  (Region.wanted o (yielded ops a.tmps) = true ∧
    ((∃ v w', (execOp a.eval o).run P w = .ok (.value v) w' ∧ K v w') ∨ (∃ w', (execOp a.eval o).run P w = .ok .skip w' ∧ K undef w') ∨
     ∃ f args w', (execOp a.eval o).run P w = .ok (.enter f args) w' ∧ Calls P f args w' fun e w'' => ∃ v, e = .returned v ∧ K v w''))

theorem AnR.mono {o : Oper} {K K' : Value → World → Prop} {a : Act} {w : World} (h : AnR P ops o K a w) (k : ∀ v w, K v w → K' v w) : AnR P ops o K' a w := by
  rcases h with ⟨h1, h2⟩ | ⟨h1, ⟨v, w', h2, h3⟩ | ⟨w', h2, h3⟩ | ⟨f, args, w', h2, h3⟩⟩
  · exact .inl ⟨h1, k _ _ h2⟩
  · exact .inr ⟨h1, .inl ⟨v, w', h2, k _ _ h3⟩⟩
  · exact .inr ⟨h1, .inr (.inl ⟨w', h2, k _ _ h3⟩)⟩
  · exact .inr ⟨h1, .inr (.inr ⟨f, args, w', h2, h3.mono fun e w'' ⟨v, e1, e2⟩ => ⟨v, e1, k _ _ e2⟩⟩)⟩
theorem AnR.ex {o : Oper} {K : Value → World → Prop} {a : Act} {w : World} (h : AnR P ops o K a w) : ∃ v w', K v w' := by
  rcases h with ⟨h1, h2⟩ | ⟨h1, ⟨v, w', h2, h3⟩ | ⟨w', h2, h3⟩ | ⟨f, args, w', h2, h3⟩⟩
  · exact ⟨_, _, h2⟩
  · exact ⟨_, _, h3⟩
  · exact ⟨_, _, h3⟩
  · obtain ⟨e, w'', fr, ⟨v, _, hK⟩, _⟩ := h3 []
    exact ⟨_, _, hK⟩
theorem AnR.wpOp {o : Oper} {K : Value → World → Prop} {a : Act} {w : World} {Q : Exit → Act → World → Prop} {i : Nat} (hi : ops[i]? = some o) (h : AnR P ops o K a w) {K' : Act → World → Prop} (k : ∀ v w', K v w' → K' (a.put o.dst v) w') : Go.wpOp P ops Q i K' a w := by
  unfold Go.wpOp
  simp only [hi]
  rcases h with ⟨h1, h2⟩ | ⟨h1, h2⟩
  · simp only [h1, Bool.false_eq_true, if_false]; exact k _ _ h2
  · simp only [h1, if_true]
    refine .inl ?_
    unfold Oper.wp
    rcases h2 with ⟨v, w', h2, h3⟩ | ⟨w', h2, h3⟩ | ⟨f, args, w', h2, h3⟩
    · rw [h2]; exact k _ _ h3
    · rw [h2]; exact k _ _ h3
    · rw [h2]
      refine h3.mono fun e w'' ⟨v, e1, e2⟩ => ?_
      subst e1
      exact k _ _ e2

theorem UnY.same {o : Oper} {v : Value} {a a' : Act} (h : UnY P ops C o v a) (he : execOp a'.eval o = execOp a.eval o) (hw : Region.wanted o (yielded ops a'.tmps) = Region.wanted o (yielded ops a.tmps)) : UnY P ops C o v a' := by
  unfold UnY at *; rw [he, hw]; exact h
theorem AnR.same {o : Oper} {K : Value → World → Prop} {a a' : Act} {w : World} (h : AnR P ops o K a w) (he : execOp a'.eval o = execOp a.eval o) (hw : Region.wanted o (yielded ops a'.tmps) = Region.wanted o (yielded ops a.tmps)) : AnR P ops o K a' w := by
  unfold AnR at *; rw [he, hw]; exact h
theorem UnY.uniq {o : Oper} {v v' : Value} {a : Act} {w : World} (hc : C w) (h : UnY P ops C o v a) (h' : UnY P ops C o v' a) : v = v' := by
  rcases h with ⟨h1, h2⟩ | ⟨h1, rfl⟩ <;> rcases h' with ⟨g1, g2⟩ | ⟨g1, rfl⟩
  · have := (h2 w hc).symm.trans (g2 w hc)
    simpa using this
  · rw [h1] at g1; cases g1
  · rw [h1] at g1; cases g1
  · rfl

/-- The head of the region in whatever order; L: behind it. -/
def AM (P : Program) (md : Region.Mode) (ops : Array Oper) (C : World → Prop) (un : Nat → Bool) (L : Array Bool → Act → World → Prop) : Nat → Array Bool → Act → World → Prop
  | 0, listed, a, w => C w ∧ L listed a w
  | f + 1, listed, a, w => C w ∧ Region.ready md ops listed ≠ [] ∧ ∀ i ∈ Region.ready md ops listed, ∃ o, ops[i]? = some o ∧
      (match un i with
       | true => ∃ v, UnY P ops C o v a ∧ AM P md ops C un L f (listed.setIfInBounds i true) (a.put o.dst v) w
       | false => AnR P ops o (fun v w' => AM P md ops C un L f (listed.setIfInBounds i true) (a.put o.dst v) w') a w)

variable {un : Nat → Bool} {L : Array Bool → Act → World → Prop}
theorem AM.c {f : Nat} {listed : Array Bool} {a : Act} {w : World} (h : AM P md ops C un L f listed a w) : C w := by
  cases f <;> exact h.1
theorem AM.any {Q : Exit → Act → World → Prop} {gg : Nat} (hL : ∀ listed a w, L listed a w → wpAny P md ops Q gg listed a w) : ∀ (f : Nat) (listed : Array Bool) (a : Act) (w : World), AM P md ops C un L f listed a w → wpAny P md ops Q (f + gg) listed a w
  | 0, listed, a, w, h => by rw [Nat.zero_add]; exact hL _ _ _ h.2
  | f + 1, listed, a, w, h => by
    rw [show f + 1 + gg = (f + gg) + 1 by omega]
    refine ⟨fun e => absurd e h.2.1, fun i hi => ?_⟩
    obtain ⟨o, ho, h2⟩ := h.2.2 i hi
    cases hu : un i with
    | true =>
      rw [hu] at h2
      obtain ⟨v, hy, h3⟩ := h2
      have h4 := AM.any hL f _ _ _ h3
      unfold wpOp
      simp only [ho]
      rcases hy with ⟨y1, y2⟩ | ⟨y1, rfl⟩
      · simp only [y1, if_true]
        refine .inl ?_
        unfold Oper.wp
        rw [y2 w h.1]; exact h4
      · simp only [y1, Bool.false_eq_true, if_false]; exact h4
    | false =>
      rw [hu] at h2
      exact h2.wpOp ho fun v w' h3 => AM.any hL f _ _ _ h3

/-- Waits for, over at most f steps. -/
def waits (md : Region.Mode) (ops : Array Oper) : Nat → Nat → Nat → Bool
  | 0, _, _ => false
  | f + 1, j, i => match ops[j]? with
    | none => false
    | some oj => oj.after.any fun e => Region.binds md e && (e.on == i || waits md ops f e.on i)
def Closed (md : Region.Mode) (ops : Array Oper) (listed : Array Bool) : Prop := ∀ j oj, ops[j]? = some oj → listed.getD j false = true → ∀ e ∈ oj.after, Region.binds md e = true → listed.getD e.on false = true
theorem waits_listed {listed : Array Bool} (hc : Closed md ops listed) : ∀ (f j i : Nat) (oj : Oper), ops[j]? = some oj → (∀ e ∈ oj.after, Region.binds md e = true → listed.getD e.on false = true) → waits md ops f j i = true → listed.getD i false = true
  | 0, _, _, _, _, _, h => by cases h
  | f + 1, j, i, oj, hj, hall, h => by
    simp only [waits, hj] at h
    obtain ⟨e, he, hb⟩ := Array.any_eq_true'.1 h
    simp only [Bool.and_eq_true, Bool.or_eq_true, beq_iff_eq] at hb
    have h1 := hall e he hb.1
    rcases hb.2 with h2 | h2
    · rw [← h2]; exact h1
    · cases hx : ops[e.on]? with
      | none => cases f <;> simp [waits, hx] at h2
      | some ox => exact waits_listed hc f e.on i ox hx (hc e.on ox hx h1) h2
theorem Closed.set {listed : Array Bool} {i : Nat} (hc : Closed md ops listed) (hi : i ∈ Region.ready md ops listed) : Closed md ops (listed.setIfInBounds i true) := by
  obtain ⟨_, oi, hoi, hall⟩ := mem_ready.1 hi
  intro j oj hj hl e he hb
  by_cases hij : i = j
  · subst hij
    have : oj = oi := Option.some.inj (hj.symm.trans hoi)
    subst this
    exact getD_set_true (hall e he hb)
  · rw [getD_set_ne false hij] at hl
    exact getD_set_true (hc j oj hj hl e he hb)
theorem ready_waits {listed : Array Bool} {f j i : Nat} (hc : Closed md ops listed) (hj : j ∈ Region.ready md ops listed) (h : waits md ops f j i = true) : listed.getD i false = true := by
  obtain ⟨_, oj, hoj, hall⟩ := mem_ready.1 hj
  exact waits_listed hc f j i oj hoj hall h

/-- What is asked of the head (the first m operations). -/
structure MixOk (md : Region.Mode) (ops : Array Oper) (un : Nat → Bool) (m : Nat) : Prop where
  sel : ∀ (j : Nat) (o : Oper) cs b, ops[j]? = some o → o.op ≠ .select cs b
  chain : ∀ i j, i < j → j < m → un i = false → un j = false → waits md ops 4 j i = true
  sink : ∀ i t, i < m → m ≤ t → t < ops.size → waits md ops 4 t i = true

/-- All listed so far is of the head; it is closed. -/
structure HInv (md : Region.Mode) (ops : Array Oper) (m : Nat) (listed : Array Bool) : Prop where
  closed : Closed md ops listed

theorem tail_not {m k : Nat} {listed : Array Bool} (mo : MixOk md ops un m) (hc : Closed md ops listed) (hk : k < m) (hun : listed.getD k true = false) {t : Nat} (ht : t ∈ Region.ready md ops listed) : t < m := by
  rcases Nat.lt_or_ge t m with h | h
  · exact h
  · obtain ⟨_, ot, hot, _⟩ := mem_ready.1 ht
    have := ready_waits hc ht (mo.sink k t hk h (Array.getElem?_eq_some_iff.1 hot).1)
    rw [getD_both hun] at this
    cases this

theorem AM.un_first {m k : Nat} {ok : Oper} {u : Value} (mo : MixOk md ops un m) (hk : ops[k]? = some ok) (hun : un k = true) (hkm : k < m) (hdone : ∀ listed a w, L listed a w → ∀ j ∈ Region.ready md ops listed, m ≤ j) :
    ∀ (f : Nat) (listed : Array Bool) (a : Act) (w : World), Closed md ops listed →
      (∀ j oj, ops[j]? = some oj → j ≠ k → listed.getD j true = false → (∀ e ∈ oj.after, Region.binds md e = true → e.on ≠ k) → ok.apart ops oj = true) →
      k ∈ Region.ready md ops listed → UnY P ops C ok u a → AM P md ops C un L f (listed.setIfInBounds k true) (a.put ok.dst u) w → AM P md ops C un L (f + 1) listed a w := by
  intro f
  induction f with
  | zero =>
    intro listed a w hc _ hr hy H
    have hkun := (mem_ready.1 hr).1
    refine ⟨H.1, fun h => (by rw [h] at hr; cases hr), fun j hj => ?_⟩
    by_cases hjk : j = k
    · subst hjk
      refine ⟨ok, hk, ?_⟩
      rw [hun]
      exact ⟨u, hy, H⟩
    · have h1 := hdone _ _ _ H.2 j (ready_mono hj hjk)
      have h2 := tail_not mo hc hkm hkun hj
      omega
  | succ f ih =>
    intro listed a w hc hfree hr hy H
    have hkun := (mem_ready.1 hr).1
    refine ⟨H.1, fun h => (by rw [h] at hr; cases hr), fun j hj => ?_⟩
    by_cases hjk : j = k
    · subst hjk
      refine ⟨ok, hk, ?_⟩
      rw [hun]
      exact ⟨u, hy, H⟩
    · obtain ⟨o, ho, h2⟩ := H.2.2 j (ready_mono hj hjk)
      obtain ⟨hjun, oj, hoj, hall⟩ := mem_ready.1 hj
      have : o = oj := Option.some.inj (ho.symm.trans hoj)
      subst this
      have hno : ∀ e ∈ o.after, Region.binds md e = true → e.on ≠ k := fun e he hb heq => by
        have h1 := hall e he hb
        rw [heq, getD_both hkun] at h1
        cases h1
      have hap := hfree j o hoj hjk hjun hno
      obtain ⟨q1, q2, q3⟩ := Oper.apart_spec hap
      have selj : ∀ cs b, o.op ≠ .select cs b := fun cs b => mo.sel j o cs b hoj
      have selk : ∀ cs b, ok.op ≠ .select cs b := fun cs b => mo.sel k ok cs b hk
      have hfree' : ∀ i oi, ops[i]? = some oi → i ≠ k → (listed.setIfInBounds j true).getD i true = false → (∀ e ∈ oi.after, Region.binds md e = true → e.on ≠ k) → ok.apart ops oi = true := fun i oi hi hik hl hn => by
        refine hfree i oi hi hik ?_ hn
        by_cases hji : j = i
        · subst hji; exact hjun
        · rwa [getD_set_ne true hji] at hl
      have hc' := hc.set hj
      have hr' := ready_mono hr (Ne.symm hjk)
      have hky : ∀ v, UnY P ops C ok u (a.put o.dst v) := fun v => hy.same (execOp_put ok selk a o.dst v fun d hd => q3 d hd) (wanted_put ok a o.dst v fun d hd => q3 d hd)
      refine ⟨o, hoj, ?_⟩
      cases huj : un j with
      | true =>
        rw [huj] at h2
        obtain ⟨v, hv, h3⟩ := h2
        refine ⟨v, hv.same (execOp_put o selj a ok.dst u fun d hd => q1 d hd).symm (wanted_put o a ok.dst u fun d hd => q1 d hd).symm, ih _ _ _ hc' hfree' hr' (hky v) ?_⟩
        rw [Array.setIfInBounds_comm _ _ hjk, ← Act.put_comm a u v q2]
        exact h3
      | false =>
        rw [huj] at h2
        refine (h2.same (execOp_put o selj a ok.dst u fun d hd => q1 d hd).symm (wanted_put o a ok.dst u fun d hd => q1 d hd).symm).mono fun v w' h3 => ?_
        refine ih _ _ _ hc' hfree' hr' (hky v) ?_
        rw [Array.setIfInBounds_comm _ _ hjk, ← Act.put_comm a u v q2]
        exact h3

theorem AM.an_first {m k : Nat} {ok : Oper} (mo : MixOk md ops un m) (hk : ops[k]? = some ok) (hun : un k = false) (hkm : k < m) (hdone : ∀ listed a w, L listed a w → ∀ j ∈ Region.ready md ops listed, m ≤ j) :
    ∀ (f : Nat) (listed : Array Bool) (a : Act) (w : World), Closed md ops listed → C w →
      (∀ j oj, ops[j]? = some oj → j ≠ k → listed.getD j true = false → (∀ e ∈ oj.after, Region.binds md e = true → e.on ≠ k) → ok.apart ops oj = true) →
      (∀ i, i < k → un i = false → listed.getD i true = true) →
      k ∈ Region.ready md ops listed → AnR P ops ok (fun v w' => AM P md ops C un L f (listed.setIfInBounds k true) (a.put ok.dst v) w') a w → AM P md ops C un L (f + 1) listed a w := by
  intro f
  induction f with
  | zero =>
    intro listed a w hc hcw _ _ hr H
    have hkun := (mem_ready.1 hr).1
    refine ⟨hcw, fun h => (by rw [h] at hr; cases hr), fun j hj => ?_⟩
    by_cases hjk : j = k
    · subst hjk
      refine ⟨ok, hk, ?_⟩
      rw [hun]
      exact H
    · obtain ⟨v0, w0, H0⟩ := H.ex
      have h1 := hdone _ _ _ H0.2 j (ready_mono hj hjk)
      have h2 := tail_not mo hc hkm hkun hj
      omega
  | succ f ih =>
    intro listed a w hc hcw hfree hpre hr H
    have hkun := (mem_ready.1 hr).1
    refine ⟨hcw, fun h => (by rw [h] at hr; cases hr), fun j hj => ?_⟩
    by_cases hjk : j = k
    · subst hjk
      refine ⟨ok, hk, ?_⟩
      rw [hun]
      exact H
    · obtain ⟨hjun, o, hoj, hall⟩ := mem_ready.1 hj
      have hjm := tail_not mo hc hkm hkun hj
      have huj : un j = true := by
        cases huj : un j with
        | true => rfl
        | false =>
          rcases Nat.lt_or_ge j k with h | h
          · have := hpre j h huj
            rw [hjun] at this; cases this
          · have := ready_waits hc hj (mo.chain k j (by omega) hjm hun huj)
            rw [getD_both hkun] at this; cases this
      have hno : ∀ e ∈ o.after, Region.binds md e = true → e.on ≠ k := fun e he hb heq => by
        have h1 := hall e he hb
        rw [heq, getD_both hkun] at h1
        cases h1
      have hap := hfree j o hoj hjk hjun hno
      obtain ⟨q1, q2, q3⟩ := Oper.apart_spec hap
      have selj : ∀ cs b, o.op ≠ .select cs b := fun cs b => mo.sel j o cs b hoj
      have selk : ∀ cs b, ok.op ≠ .select cs b := fun cs b => mo.sel k ok cs b hk
      have hfree' : ∀ i oi, ops[i]? = some oi → i ≠ k → (listed.setIfInBounds j true).getD i true = false → (∀ e ∈ oi.after, Region.binds md e = true → e.on ≠ k) → ok.apart ops oi = true := fun i oi hi hik hl hn => by
        refine hfree i oi hi hik ?_ hn
        by_cases hji : j = i
        · subst hji; exact hjun
        · rwa [getD_set_ne true hji] at hl
      have hc' := hc.set hj
      have hr' := ready_mono hr (Ne.symm hjk)
      have hpre' : ∀ i, i < k → un i = false → (listed.setIfInBounds j true).getD i true = true := fun i h1 h2 => by
        by_cases hji : j = i
        · subst hji
          rw [huj] at h2; cases h2
        · rw [getD_set_ne true hji]; exact hpre i h1 h2
      have key : ∀ v w', AM P md ops C un L (f + 1) (listed.setIfInBounds k true) (a.put ok.dst v) w' → ∃ u, UnY P ops C o u a ∧ AM P md ops C un L f ((listed.setIfInBounds j true).setIfInBounds k true) ((a.put o.dst u).put ok.dst v) w' := fun v w' h => by
        obtain ⟨o', ho', h2⟩ := h.2.2 j (ready_mono hj hjk)
        have : o' = o := Option.some.inj (ho'.symm.trans hoj)
        subst this
        rw [huj] at h2
        obtain ⟨u, hu, h3⟩ := h2
        refine ⟨u, hu.same (execOp_put o' selj a ok.dst v fun d hd => q1 d hd).symm (wanted_put o' a ok.dst v fun d hd => q1 d hd).symm, ?_⟩
        rw [Array.setIfInBounds_comm _ _ hjk, ← Act.put_comm a v u q2]
        exact h3
      obtain ⟨v0, w0, H0⟩ := H.ex
      obtain ⟨u, hu, _⟩ := key v0 w0 H0
      refine ⟨o, hoj, ?_⟩
      rw [huj]
      refine ⟨u, hu, ih _ _ _ hc' hcw hfree' hpre' hr' ?_⟩
      refine (H.mono fun v w' h => ?_).same (execOp_put ok selk a o.dst u fun d hd => q3 d hd) (wanted_put ok a o.dst u fun d hd => q3 d hd)
      obtain ⟨u', hu', h4⟩ := key v w' h
      have : u' = u := UnY.uniq hcw hu' hu
      subst this
      exact h4

def lexM (P : Program) (ops : Array Oper) (C : World → Prop) (Q : Exit → Act → World → Prop) (tail : List Oper) : List (Bool × Oper) → Act → World → Prop
  | [], a, w => wpList P ops Q tail a w
  | (true, o) :: r, a, w => ∃ u, UnY P ops C o u a ∧ lexM P ops C Q tail r (a.put o.dst u) w
  | (false, o) :: r, a, w => AnR P ops o (fun v w' => C w' ∧ lexM P ops C Q tail r (a.put o.dst v) w') a w

theorem AM_lex {m gg : Nat} {Q : Exit → Act → World → Prop} {tail : List Oper} (mo : MixOk md ops un m) : ∀ (z : List (Bool × Oper)) (k : Nat) (listed : Array Bool) (a : Act) (w : World),
    (∀ j x, z[j]? = some x → ops[k + j]? = some x.2 ∧ un (k + j) = x.1) → k + z.length = m → Closed md ops listed → (∀ i, i < k → listed.getD i true = true) → Region.lexHead md ops gg z.length k listed = true → C w → lexM P ops C Q tail z a w →
    AM P md ops C un (fun listed' a' w' => Region.seqB md ops gg m listed' = true ∧ wpList P ops Q tail a' w') z.length listed a w
  | [], k, listed, a, w, _, hk, _, _, hB, hc, h => by
    have : k = m := by simpa using hk
    subst this
    exact ⟨hc, by simpa [Region.lexHead] using hB, h⟩
  | (b, o) :: z, k, listed, a, w, hz, hk, hcl, hpre, hB, hc, h => by
    obtain ⟨h0, h1⟩ := hz 0 (b, o) rfl
    simp only [Nat.add_zero] at h0 h1
    simp only [List.length_cons] at hk
    simp only [List.length_cons, Region.lexHead, Bool.and_eq_true] at hB
    obtain ⟨⟨hr, hf⟩, hB'⟩ := hB
    have hr' : k ∈ Region.ready md ops listed := by simpa using hr
    have hz' : ∀ j x, z[j]? = some x → ops[k + 1 + j]? = some x.2 ∧ un (k + 1 + j) = x.1 := fun j x hx => by
      have := hz (j + 1) x (by simpa using hx)
      rwa [show k + (j + 1) = k + 1 + j by omega] at this
    have hks : k < listed.size := by
      have := (mem_ready.1 hr').1
      rcases Nat.lt_or_ge k listed.size with h | h
      · exact h
      · simp [Array.getElem?_eq_none h] at this
    have hpre' : ∀ i, i < k + 1 → (listed.setIfInBounds k true).getD i true = true := fun i hi => by
      by_cases hik : k = i
      · subst hik; simp [hks]
      · rw [getD_set_ne true hik]; exact hpre i (by omega)
    have hdone : ∀ (listed' : Array Bool) (a' : Act) (w' : World), (Region.seqB md ops gg m listed' = true ∧ wpList P ops Q tail a' w') → ∀ j ∈ Region.ready md ops listed', m ≤ j := fun listed' a' w' hL => seqB_ready hL.1
    cases b with
    | true =>
      obtain ⟨u, hu, h2⟩ := h
      exact AM.un_first mo h0 h1 (by omega) hdone _ _ _ _ hcl (Region.free_spec h0 hf) hr' hu (AM_lex mo z (k + 1) _ _ _ hz' (by omega) (hcl.set hr') hpre' hB' hc h2)
    | false =>
      refine AM.an_first mo h0 h1 (by omega) hdone _ _ _ _ hcl hc (Region.free_spec h0 hf) (fun i hi _ => hpre i hi) hr' ?_
      exact AnR.mono h fun v w' h2 => AM_lex mo z (k + 1) _ _ _ hz' (by omega) (hcl.set hr') hpre' hB' h2.1 h2.2

def mixB (md : Region.Mode) (ops : Array Oper) (ms : List Bool) : Bool :=
  Region.noSelect ops && decide (ms.length ≤ ops.size) &&
  ((List.range ms.length).all fun j => (List.range j).all fun i => ms.getD i true || ms.getD j true || waits md ops 4 j i) &&
  ((List.range ops.size).all fun t => decide (t < ms.length) || (List.range ms.length).all fun i => waits md ops 4 t i) &&
  Region.lexHead md ops (ops.size - ms.length) ms.length 0 (Array.replicate ops.size false)

theorem mixB_ok {ms : List Bool} (h : mixB md ops ms = true) : MixOk md ops (fun i => ms.getD i true) ms.length ∧ ms.length ≤ ops.size ∧ Region.lexHead md ops (ops.size - ms.length) ms.length 0 (Array.replicate ops.size false) = true := by
  simp only [mixB, Bool.and_eq_true, decide_eq_true_eq] at h
  obtain ⟨⟨⟨⟨h1, h2⟩, h3⟩, h4⟩, h5⟩ := h
  refine ⟨⟨Region.noSelect_spec h1, fun i j hij hj hi hj' => ?_, fun i t hi ht hts => ?_⟩, h2, h5⟩
  · have := List.all_eq_true.1 (List.all_eq_true.1 h3 j (List.mem_range.2 hj)) i (List.mem_range.2 hij)
    simp only [hi, hj', Bool.false_or] at this
    exact this
  · have := List.all_eq_true.1 h4 t (List.mem_range.2 hts)
    simp only [Bool.or_eq_true, decide_eq_true_eq] at this
    rcases this with h | h
    · omega
    · exact List.all_eq_true.1 h i (List.mem_range.2 hi)

theorem wp_region_mix {id : Nat} {Q : Exit → Act → World → Prop} {a : Act} {w : World} {l : List Oper} (ms : List Bool) (hm : P.follows .mixedOrders = true) (hB : mixB .any l.toArray ms = true) (hC : C w.drew)
    (h : lexM P l.toArray C Q (l.drop ms.length) (ms.zip l) a w.drew) : (Code.region id l.toArray true).wp P Q a w := by
  obtain ⟨mo, hle, hlex⟩ := mixB_ok hB
  have hle' : ms.length ≤ l.length := by simpa using hle
  have hzl : (ms.zip l).length = ms.length := by rw [List.length_zip]; omega
  refine wp_region_any hm ?_
  have H := AM_lex (P := P) (C := C) (md := .any) (gg := l.toArray.size - ms.length) (Q := Q) (tail := l.drop ms.length) mo (ms.zip l) 0 (Array.replicate l.toArray.size false) a w.drew
    (fun j x hx => by
      rw [List.getElem?_zip_eq_some] at hx
      obtain ⟨x1, x2⟩ := hx
      simp [x1, x2]) (by rw [Nat.zero_add]; exact hzl) (fun j oj _ hl => by rw [getD_replicate_false] at hl; cases hl) (fun i hi => absurd hi (by omega)) (by rw [hzl]; exact hlex) hC h
  have := AM.any (Q := Q) (gg := l.toArray.size - ms.length) (fun listed a' w' hL => by
    have := wpAny_of_seq (md := .any) (Q' := Q) (l.drop ms.length) ms.length listed a' w' (fun j => by simp [List.getElem?_drop]) (by rw [List.length_drop]; simpa using hL.1) hL.2
    simpa using this) _ _ _ _ H
  rw [hzl, show ms.length + (l.toArray.size - ms.length) = l.toArray.size by omega] at this
  exact this
end

/-- The operation yields a value, nothing, or a call. -/
class ND (P : Program) (o : Oper) : Prop where
  h : ∀ (a : Act) w nx w', (execOp a.eval o).run P w = .ok nx w' → (∃ v, nx = .value v) ∨ nx = .skip ∨ ∃ f args, nx = .enter f args
section
variable {P : Program} {d : Option Nat} {ty : TypeId} {pos : String} {af : Array Edge} {gd : Option (Nat × Bool)}
theorem nd_v {s : Sem Value} {w w' : World} {nx : Next} (h : (do pure (Next.value (← s)) : Sem Next).run P w = .ok nx w') : ∃ v, nx = .value v := by
  simp only [Sem.run_bind] at h
  cases hr : s.run P w with
  | ok v w1 => simp only [hr, Result.andThen_ok, Sem.run_pure, Result.ok.injEq] at h; exact ⟨v, h.1.symm⟩
  | halt x w1 => simp [hr] at h
theorem nd_u {s : Sem Unit} {w w' : World} {nx : Next} (h : (do s; pure Next.skip : Sem Next).run P w = .ok nx w') : nx = .skip := by
  simp only [Sem.run_bind] at h
  cases hr : s.run P w with
  | ok v w1 => simp only [hr, Result.andThen_ok, Sem.run_pure, Result.ok.injEq] at h; exact h.1.symm
  | halt x w1 => simp [hr] at h
instance ND.store {t : Nat} {x y : Operand} : ND P ⟨d, .store t x y, ty, pos, af, gd⟩ := ⟨fun _ _ _ _ h => .inr (.inl (nd_u h))⟩
instance ND.load {t : Nat} {x : Operand} : ND P ⟨d, .load t x, ty, pos, af, gd⟩ := ⟨fun _ _ _ _ h => .inl (nd_v h)⟩
instance ND.alloc {t : Nat} : ND P ⟨d, .alloc t, ty, pos, af, gd⟩ := ⟨fun _ _ _ _ h => .inl (nd_v h)⟩
instance ND.box {t : Nat} {x : Operand} : ND P ⟨d, .box t x, ty, pos, af, gd⟩ := ⟨fun _ _ _ _ h => .inl (nd_v h)⟩
instance ND.lit {t n : Nat} {ps : Array (Nat × Operand)} : ND P ⟨d, .buildSlice t n ps, ty, pos, af, gd⟩ := ⟨fun _ _ _ _ h => .inl (nd_v h)⟩
instance ND.make {t : Nat} {x y : Operand} : ND P ⟨d, .makeSlice t x y, ty, pos, af, gd⟩ := ⟨fun _ _ _ _ h => .inl (nd_v h)⟩
instance ND.conv {t t' : Nat} {x : Operand} : ND P ⟨d, .convert t t' x, ty, pos, af, gd⟩ := ⟨fun _ _ _ _ h => .inl (nd_v h)⟩
instance ND.call {f : FuncId} {as : Array Operand} {ts : Array TypeId} [hn : Enters P f] : ND P ⟨d, .call ⟨.value (.func f), as, ts⟩, ty, pos, af, gd⟩ := ⟨fun a w nx w' h => by
  have e0 : a.eval (.func f) = .func (.func f) #[] #[] := rfl
  simp only [execOp, resolve, e0] at h
  simp [Deferred.ofValue, invoke, callFunc_run hn] at h
  exact .inr (.inr ⟨_, _, h.1.symm⟩)⟩
instance ND.app {as : Array Operand} {ts : Array TypeId} : ND P ⟨d, .call ⟨.builtin .append, as, ts⟩, ty, pos, af, gd⟩ := ⟨fun ρ w nx w' h => by
  simp only [execOp, resolve, Sem.run_bind, Sem.run_pure, Result.andThen_ok, invoke, builtin] at h
  exact .inl (nd_v (by simpa using h))⟩

/-- The operation yields a value. -/
class NV (P : Program) (o : Oper) : Prop where
  h : ∀ (a : Act) w nx w', (execOp a.eval o).run P w = .ok nx w' → ∃ v, nx = .value v
instance NV.load {t : Nat} {x : Operand} : NV P ⟨d, .load t x, ty, pos, af, gd⟩ := ⟨fun _ _ _ _ h => nd_v h⟩
instance NV.move {x : Operand} : NV P ⟨d, .move x, ty, pos, af, gd⟩ := ⟨fun _ _ _ _ h => ⟨_, (Result.ok.inj h).1.symm⟩⟩
instance NV.assign {x : Operand} : NV P ⟨d, .assign x, ty, pos, af, gd⟩ := ⟨fun _ _ _ _ h => ⟨_, (Result.ok.inj h).1.symm⟩⟩
instance NV.pick {c x y : Operand} : NV P ⟨d, .pick c x y, ty, pos, af, gd⟩ := ⟨fun a w nx w' h => by
  simp only [execOp, Sem.run_bind] at h
  cases hr : (asBool (a.eval c)).run P w with
  | ok v w1 => simp only [hr, Result.andThen_ok, Sem.run_pure, Result.ok.injEq] at h; exact ⟨_, h.1.symm⟩
  | halt x w1 => simp [hr] at h⟩
instance NV.nilCheck {x : Operand} : NV P ⟨d, .nilCheck x, ty, pos, af, gd⟩ := ⟨fun a w nx w' h => by
  simp only [execOp] at h
  split at h
  · simp [runtimePanic] at h
  · simp [runtimePanic] at h
  · simp [runtimePanic] at h
  · split at h
    · simp [runtimePanic] at h
    · simp only [Sem.run_bind, run_program, Result.andThen_ok] at h
      cases hr : (nilAhead (P.types.size + Made.depth) _ _ _).run P w with
      | halt x w1 => rw [hr] at h; cases h
      | ok r w1 =>
        rw [hr] at h
        simp only [Result.andThen_ok] at h
        split at h
        · simp at h
        · exact ⟨_, (Result.ok.inj h).1.symm⟩
    · exact ⟨_, (Result.ok.inj h).1.symm⟩
  · exact ⟨_, (Result.ok.inj h).1.symm⟩⟩
instance NV.bin {bo : BinOp} {t t' : Nat} {x y : Operand} : NV P ⟨d, .binOp bo t x y t', ty, pos, af, gd⟩ := ⟨fun _ _ _ _ h => nd_v h⟩
instance NV.un {uo : UnOp} {t : Nat} {x : Operand} : NV P ⟨d, .unOp uo t x, ty, pos, af, gd⟩ := ⟨fun _ _ _ _ h => nd_v h⟩
instance NV.conv {t t' : Nat} {x : Operand} : NV P ⟨d, .convert t t' x, ty, pos, af, gd⟩ := ⟨fun _ _ _ _ h => nd_v h⟩
instance NV.fieldAddr {t f : Nat} {x : Operand} : NV P ⟨d, .fieldAddr t x f, ty, pos, af, gd⟩ := ⟨fun _ _ _ _ h => nd_v h⟩
instance NV.field {t f : Nat} {x : Operand} : NV P ⟨d, .field t x f, ty, pos, af, gd⟩ := ⟨fun _ _ _ _ h => nd_v h⟩
instance NV.indexAddr {t : Nat} {x y : Operand} : NV P ⟨d, .indexAddr t x y, ty, pos, af, gd⟩ := ⟨fun _ _ _ _ h => nd_v h⟩
instance NV.index {t : Nat} {x y : Operand} : NV P ⟨d, .index t x y, ty, pos, af, gd⟩ := ⟨fun _ _ _ _ h => nd_v h⟩
instance NV.slice {t : Nat} {x : Operand} {lo hi mx : Option Operand} : NV P ⟨d, .slice t x lo hi mx, ty, pos, af, gd⟩ := ⟨fun _ _ _ _ h => nd_v h⟩
instance NV.build {t : Nat} {ps : Array (Nat × Operand)} : NV P ⟨d, .build t ps, ty, pos, af, gd⟩ := ⟨fun _ _ _ _ h => nd_v h⟩
instance NV.extract {i : Nat} {x : Operand} : NV P ⟨d, .extract x i, ty, pos, af, gd⟩ := ⟨fun _ _ _ _ h => nd_v h⟩
theorem nv_bi {b : Builtin} (hb : ∀ ts ty cs vs, ∃ s : Sem Value, builtin b ts ty cs vs = (do pure (Next.value (← s)) : Sem Next)) {as : Array Operand} {ts : Array TypeId} : NV P ⟨d, .call ⟨.builtin b, as, ts⟩, ty, pos, af, gd⟩ := ⟨fun a w nx w' h => by
  simp only [execOp, resolve, Sem.run_bind, Sem.run_pure, Result.andThen_ok, invoke] at h
  have key : ∀ cs vs, (builtin b ts ty cs vs).run P w = .ok nx w' → ∃ v, nx = .value v := fun cs vs h => by
    obtain ⟨s, hs⟩ := hb ts ty cs vs
    rw [hs] at h
    exact nd_v h
  exact key _ _ h⟩
instance NV.len {as : Array Operand} {ts : Array TypeId} : NV P ⟨d, .call ⟨.builtin .len, as, ts⟩, ty, pos, af, gd⟩ := nv_bi fun _ _ _ _ => ⟨_, rfl⟩
instance NV.cap {as : Array Operand} {ts : Array TypeId} : NV P ⟨d, .call ⟨.builtin .cap, as, ts⟩, ty, pos, af, gd⟩ := nv_bi fun _ _ _ _ => ⟨_, rfl⟩
instance NV.min {as : Array Operand} {ts : Array TypeId} : NV P ⟨d, .call ⟨.builtin .min, as, ts⟩, ty, pos, af, gd⟩ := nv_bi fun _ _ _ _ => ⟨_, rfl⟩
instance NV.max {as : Array Operand} {ts : Array TypeId} : NV P ⟨d, .call ⟨.builtin .max, as, ts⟩, ty, pos, af, gd⟩ := nv_bi fun _ _ _ _ => ⟨_, rfl⟩
end

section
variable {g : World} {P : Program} {ops : Array Oper} {Q : Exit → Act → World → Prop} {n : Nat} {L : Fm} {H H' Hc : HH} {tail : List Oper} {z : List (Bool × Oper)} {o : Oper}

/-- The head of a region that draws: what is left of it. -/
structure WM (g : World) (P : Program) (ops : Array Oper) (Q : Exit → Act → World → Prop) (n : Nat) (Hc : HH) (tail : List Oper) (z : List (Bool × Oper)) (L : Fm) (H : HH) : Prop where
  run : ∀ a w, Fr n L a → on g H.flatten w → lexM P ops (on g Hc.flatten) Q tail z a w

def Qun (g : World) (P : Program) (ops : Array Oper) (Q : Exit → Act → World → Prop) (Hc : HH) (tail : List Oper) (z : List (Bool × Oper)) (H : HH) : Exit → Act → World → Prop :=
  fun _ a _ => ∀ w, on g H.flatten w → lexM P ops (on g Hc.flatten) Q tail z a w
def Qan (g : World) (P : Program) (ops : Array Oper) (Q : Exit → Act → World → Prop) (Hc : HH) (tail : List Oper) (z : List (Bool × Oper)) : Exit → Act → World → Prop
  | .normal, a, w => on g Hc.flatten w ∧ lexM P ops (on g Hc.flatten) Q tail z a w
  | _, _, _ => False

theorem W.mix {id : Nat} {l : List Oper} (ms : List Bool) (Hc : HH) {r : HH} [k : Picks Hc H r] (hm : P.follows .mixedOrders = true) (hB : mixB .any l.toArray ms = true) (h : WM g P l.toArray Q n Hc (l.drop ms.length) (ms.zip l) L H) :
    W g P (.region id l.toArray true) Q n L H := .mk fun a w ha hw =>
  have hd : on g H.flatten w.drew := hw.heap rfl ⟨rfl, rfl, rfl, Nat.le_refl _⟩
  wp_region_mix (C := on g Hc.flatten) ms hm hB ((Hsub.of_picks k).on hd) (h.run a _ ha hd)
theorem WM.nil (h : WX false g P ops Q n tail L H) : WM g P ops Q n Hc tail [] L H := ⟨fun a w ha hw => h a w ha hw⟩
theorem WM.un {r : HH} [nv : NV P o] [k : Picks Hc H r] (h : WX true g P ops (Qun g P ops Q Hc tail z H) n [o] L Hc) : WM g P ops Q n Hc tail ((true, o) :: z) L H := ⟨fun a w ha hw => by
  have hc := (Hsub.of_picks k).on hw
  have h1 : wpQuiet P ops (on g Hc.flatten) (fun a' => ∀ w', on g Hc.flatten w' → Qun g P ops Q Hc tail z H .normal a' w') [o] a := h a w ha hc
  simp only [wpQuiet] at h1
  by_cases hwa : Region.wanted o (yielded ops a.tmps) = true
  · rw [if_pos hwa] at h1
    obtain ⟨v, hv, hK⟩ := h1
    refine ⟨v, .inl ⟨hwa, fun w' hw' => ?_⟩, hK w hc w hw⟩
    have h2 := hv w' hw'
    unfold Oper.quietAt at h2
    cases hr : (execOp a.eval o).run P w' with
    | halt x w1 => rw [hr] at h2; exact h2.elim
    | ok nx w1 =>
      obtain ⟨u, rfl⟩ := nv.h a w' nx w1 hr
      rw [hr] at h2
      obtain ⟨rfl, rfl⟩ := h2
      rfl
  · rw [if_neg hwa] at h1
    exact ⟨undef, .inr ⟨by simpa using hwa, rfl⟩, h1 w hc w hw⟩⟩
theorem WM.backU (h : WM g P ops Q n Hc tail z L H) : D g (Qun g P ops Q Hc tail z H) .normal n L H' := .mk fun a w ha _ w' hw' => h.run a w' ha hw'
theorem WM.an [nd : ND P o] (h : WX false g P ops (Qan g P ops Q Hc tail z) n [o] L H) : WM g P ops Q n Hc tail ((false, o) :: z) L H := ⟨fun a w ha hw => by
  have h1 : wpList P ops (Qan g P ops Q Hc tail z) [o] a w := h a w ha hw
  have hout : ¬ LetsOut (Qan g P ops Q Hc tail z) := fun ⟨_, _, h⟩ => h
  simp only [wpList] at h1
  show AnR P ops o _ a w
  by_cases hwa : Region.wanted o (yielded ops a.tmps) = true
  · rw [if_pos hwa] at h1
    rcases h1 with h1 | ⟨_, h1⟩
    · refine .inr ⟨hwa, ?_⟩
      unfold Oper.wp at h1
      cases hr : (execOp a.eval o).run P w with
      | halt x w1 =>
        rw [hr] at h1
        cases x <;> exact h1.elim
      | ok nx w1 =>
        rw [hr] at h1
        rcases nd.h a w nx w1 hr with ⟨v, rfl⟩ | rfl | ⟨f, args, rfl⟩
        · exact .inl ⟨v, w1, rfl, h1⟩
        · exact .inr (.inl ⟨w1, rfl, h1⟩)
        · refine .inr (.inr ⟨f, args, w1, rfl, ?_⟩)
          refine Calls.mono h1 fun e w'' he => ?_
          cases e with
          | returned v => exact ⟨v, rfl, he⟩
          | panicked ch => exact he.elim
          | outgrown => exact (hout he).elim
    · exact (hout h1).elim
  · rw [if_neg hwa] at h1
    exact .inl ⟨by simpa using hwa, h1⟩⟩
theorem WM.back {r : HH} [k : Picks Hc H r] (h : WM g P ops Q n Hc tail z L H) : D g (Qan g P ops Q Hc tail z) .normal n L H := .mk fun a w ha hw => ⟨(Hsub.of_picks k).on hw, h.run a w ha hw⟩
end
end Go.Sl
