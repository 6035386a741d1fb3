/-
  The statements on the network: NetRow.
-/
import Derived.Test.YtllopddalmdbjaaNeK
set_option linter.unusedVariables false
set_option linter.unusedSimpArgs false
namespace Go.Proofs.Ytllopddalmdbjaa
open Go Go.Sl

def amail (a : NAct) : Mail := ⟨a.f, a.t, a.b, false⟩
/-- What is under way behind the first k that are sent, with nothing cut; which took. -/
def rowS (acts : List NAct) : Nat → NetS
  | 0 => {}
  | k + 1 => match acts[k]? with
    | none => rowS acts k
    | some a => (rowS acts k).send a.f a.t a.b
def rowL (acts : List NAct) : Nat → List NAct
  | 0 => []
  | k + 1 => match acts[k]? with
    | none => rowL acts k
    | some a => if (rowS acts k).sendE a.b.length = 0 then rowL acts k ++ [a] else rowL acts k
theorem rowS_ok (acts : List NAct) : ∀ k, (rowS acts k).Ok
  | 0 => NetS.Ok.new
  | k + 1 => by
    unfold rowS
    split
    · exact rowS_ok acts k
    · exact (rowS_ok acts k).send _ _ _
theorem rowS_eq (acts : List NAct) : ∀ k, rowS acts k = { ms := (rowL acts k).map amail, c := fun _ _ => false }
  | 0 => rfl
  | k + 1 => by
    unfold rowS rowL
    have ih := rowS_eq acts k
    split
    · exact ih
    · rename_i a _
      by_cases h : (rowS acts k).sendE a.b.length = 0
      · rw [if_pos h]
        unfold NetS.send
        rw [if_pos h, ih]
        simp [amail]
      · rw [if_neg h, NetS.send_ne h, ih]
theorem rowL_mem {acts : List NAct} : ∀ k a, a ∈ rowL acts k → a ∈ acts
  | 0, _, h => by cases h
  | k + 1, a, h => by
    unfold rowL at h
    split at h
    · exact rowL_mem k a h
    · rename_i a' ha
      split at h
      · rcases List.mem_append.1 h with h | h
        · exact rowL_mem k a h
        · rw [List.mem_singleton] at h; subst h; exact List.mem_of_getElem? ha
      · exact rowL_mem k a h
theorem rowS_succ {acts : List NAct} {k : Nat} {a : NAct} (h : acts[k]? = some a) : rowS acts (k + 1) = (rowS acts k).send a.f a.t a.b := by
  show (match acts[k]? with | none => rowS acts k | some a => (rowS acts k).send a.f a.t a.b) = _
  rw [h]
theorem rowL_succ {acts : List NAct} {k : Nat} {a : NAct} (h : acts[k]? = some a) : rowL acts (k + 1) = if (rowS acts k).sendE a.b.length = 0 then rowL acts k ++ [a] else rowL acts k := by
  show (match acts[k]? with | none => rowL acts k | some a => if (rowS acts k).sendE a.b.length = 0 then rowL acts k ++ [a] else rowL acts k) = _
  rw [h]
/-- Behind i deliveries from the front. -/
def frontS (l : List NAct) (i : Nat) : NetS := { ms := (l.map amail).drop i, c := fun _ _ => false }
theorem frontS_ok {l : List NAct} {i : Nat} (h1 : l.length ≤ 256) (h2 : ∀ a ∈ l, a.b.length ≤ 1024) : (frontS l i).Ok :=
  ⟨by simp [frontS]; omega, fun m hm => by
    obtain ⟨a, ha, rfl⟩ := List.mem_map.1 (List.mem_of_mem_drop hm)
    exact h2 a ha, fun _ => rfl⟩
theorem frontS_at {l : List NAct} {i : Nat} {a : NAct} (h : l[i]? = some a) : (frontS l i).at? 0 = some (amail a) := by
  unfold NetS.at?
  rw [if_pos (by decide)]
  show ((l.map amail).drop i)[0]? = _
  rw [List.getElem?_drop, List.getElem?_map, Nat.add_zero, h]; rfl
theorem frontS_cut {l : List NAct} {i : Nat} (x y : Int) : (frontS l i).isCut x y = false := by
  unfold NetS.isCut; split <;> rfl
theorem frontS_delE {l : List NAct} {i : Nat} {a : NAct} (h : l[i]? = some a) : (frontS l i).delE 0 = 0 := by
  unfold NetS.delE; rw [frontS_at h]; simp [frontS_cut]
theorem frontS_delM {l : List NAct} {i : Nat} {a : NAct} (h : l[i]? = some a) : (frontS l i).delM 0 = amail a := by
  unfold NetS.delM; rw [if_pos (frontS_delE h), frontS_at h]; rfl
theorem frontS_del {l : List NAct} {i : Nat} {a : NAct} (h : l[i]? = some a) : (frontS l i).del 0 = frontS l (i + 1) := by
  unfold NetS.del NetS.drop; rw [if_pos (frontS_delE h), frontS_at h]
  simp only [frontS]
  congr 1
  show ((l.map amail).drop i).eraseIdx 0 = _
  rw [List.eraseIdx_zero, List.tail_drop]
theorem frontS_end {l : List NAct} : (frontS l l.length).ms = [] := by simp [frontS]
theorem frontS_endE {l : List NAct} : (frontS l l.length).delE 0 = 3 := by
  unfold NetS.delE NetS.at?
  rw [frontS_end]; rfl

set_option maxHeartbeats 2000000 in
theorem nrow_ct {acts : List NAct} {v : Value} {h : Hp} (ha : NIns acts v h) :
    Ct Try.prog 7 [v] [h] (fun r H' => r = .bool true ∧ H' = [h]) := by
  have hs := ha.rd
  refine Ct.mk' Try.func7 rfl rfl rfl (fun g R => ?_)
  try simp only [List.cons_append]
  simp only [List.nil_append]
  repeat' (first | refine go ?_ | refine mv ?_ | (refine I.ld ?_; first | refine ld rfl ?_ | refine lE rfl (by assumption) ?_ | refine lA rfl ?_ | refine lF rfl (by assumption) ?_) | refine asg ?_ | (refine I.gd ?_; first | refine gy ?_ | refine gn ?_ | refine gnN ?_ | refine gu ?_ | refine guN ?_ | refine gT ?_ | refine gF ?_ | refine gS (fun _ => ?_) (fun _ => ?_)) | (refine I.fa ?_; first | refine fa ?_ | refine fE rfl ?_) | (refine I.nc ?_; first | refine nc ?_ | refine nE rfl ?_) | (refine I.bin ?_; first | refine cm rfl rfl ?_ | refine ad ?_ | refine su ?_ | refine np rfl rfl ?_ | refine eS ?_ | refine nS ?_) | (refine I.pk ?_; first | refine pT ?_ | refine pF ?_) | (refine I.cond ?_; first | refine cT ?_ | refine cF ?_ | refine cP ?_ | refine cN ?_) | refine mN ?_ | refine WX.nil ?_ | refine mU ?_ | refine mA ?_ | (refine I.bi ?_; first | refine ln rfl (by assumption) ?_ | refine l1 ?_ | refine lS ?_ | refine mi ?_ | refine ma ?_) | (refine I.ix ?_; first | refine ix rfl rfl ?_ | refine iI rfl rfl ?_ | refine iP ?_) | (refine I.st ?_; first | refine st rfl rfl ?_ | refine sG rfl rfl ?_) | refine ex ?_ | (refine I.un ?_; first | refine nD ?_ | refine nt ?_) | refine zY ?_ | refine bd ?_ | refine bx rfl (fun _ => ?_) | refine al (fun _ => ?_) | refine sl rfl rfl (by assumption) ?_ | refine cv rfl (by assumption) ?_)
  refine WX.callQ rfl able10_ct rfl ?_
  repeat' (first | refine go ?_ | refine mv ?_ | (refine I.ld ?_; first | refine ld rfl ?_ | refine lE rfl (by assumption) ?_ | refine lA rfl ?_ | refine lF rfl (by assumption) ?_) | refine asg ?_ | (refine I.gd ?_; first | refine gy ?_ | refine gn ?_ | refine gnN ?_ | refine gu ?_ | refine guN ?_ | refine gT ?_ | refine gF ?_ | refine gS (fun _ => ?_) (fun _ => ?_)) | (refine I.fa ?_; first | refine fa ?_ | refine fE rfl ?_) | (refine I.nc ?_; first | refine nc ?_ | refine nE rfl ?_) | (refine I.bin ?_; first | refine cm rfl rfl ?_ | refine ad ?_ | refine su ?_ | refine np rfl rfl ?_ | refine eS ?_ | refine nS ?_) | (refine I.pk ?_; first | refine pT ?_ | refine pF ?_) | (refine I.cond ?_; first | refine cT ?_ | refine cF ?_ | refine cP ?_ | refine cN ?_) | refine mN ?_ | refine WX.nil ?_ | refine mU ?_ | refine mA ?_ | (refine I.bi ?_; first | refine ln rfl (by assumption) ?_ | refine l1 ?_ | refine lS ?_ | refine mi ?_ | refine ma ?_) | (refine I.ix ?_; first | refine ix rfl rfl ?_ | refine iI rfl rfl ?_ | refine iP ?_) | (refine I.st ?_; first | refine st rfl rfl ?_ | refine sG rfl rfl ?_) | refine ex ?_ | (refine I.un ?_; first | refine nD ?_ | refine nt ?_) | refine zY ?_ | refine bd ?_ | refine bx rfl (fun _ => ?_) | refine al (fun _ => ?_) | refine sl rfl rfl (by assumption) ?_ | refine cv rfl (by assumption) ?_)
  refine WX.callQ rfl (much10_ct ha.toNIn) rfl ?_
  cases hmu : nmuch acts with
  | true =>
    repeat' (first | refine go ?_ | refine mv ?_ | (refine I.ld ?_; first | refine ld rfl ?_ | refine lE rfl (by assumption) ?_ | refine lA rfl ?_ | refine lF rfl (by assumption) ?_) | refine asg ?_ | (refine I.gd ?_; first | refine gy ?_ | refine gn ?_ | refine gnN ?_ | refine gu ?_ | refine guN ?_ | refine gT ?_ | refine gF ?_ | refine gS (fun _ => ?_) (fun _ => ?_)) | (refine I.fa ?_; first | refine fa ?_ | refine fE rfl ?_) | (refine I.nc ?_; first | refine nc ?_ | refine nE rfl ?_) | (refine I.bin ?_; first | refine cm rfl rfl ?_ | refine ad ?_ | refine su ?_ | refine np rfl rfl ?_ | refine eS ?_ | refine nS ?_) | (refine I.pk ?_; first | refine pT ?_ | refine pF ?_) | (refine I.cond ?_; first | refine cT ?_ | refine cF ?_ | refine cP ?_ | refine cN ?_) | refine mN ?_ | refine WX.nil ?_ | refine mU ?_ | refine mA ?_ | (refine I.bi ?_; first | refine ln rfl (by assumption) ?_ | refine l1 ?_ | refine lS ?_ | refine mi ?_ | refine ma ?_) | (refine I.ix ?_; first | refine ix rfl rfl ?_ | refine iI rfl rfl ?_ | refine iP ?_) | (refine I.st ?_; first | refine st rfl rfl ?_ | refine sG rfl rfl ?_) | refine ex ?_ | (refine I.un ?_; first | refine nD ?_ | refine nt ?_) | refine zY ?_ | refine bd ?_ | refine bx rfl (fun _ => ?_) | refine al (fun _ => ?_) | refine sl rfl rfl (by assumption) ?_ | refine cv rfl (by assumption) ?_)
    exact D.fin1 [h] _ rfl rfl ⟨rfl, rfl⟩
  | false =>
    have hlen := nmuch_len hmu
    repeat' (first | refine go ?_ | refine mv ?_ | (refine I.ld ?_; first | refine ld rfl ?_ | refine lE rfl (by assumption) ?_ | refine lA rfl ?_ | refine lF rfl (by assumption) ?_) | refine asg ?_ | (refine I.gd ?_; first | refine gy ?_ | refine gn ?_ | refine gnN ?_ | refine gu ?_ | refine guN ?_ | refine gT ?_ | refine gF ?_ | refine gS (fun _ => ?_) (fun _ => ?_)) | (refine I.fa ?_; first | refine fa ?_ | refine fE rfl ?_) | (refine I.nc ?_; first | refine nc ?_ | refine nE rfl ?_) | (refine I.bin ?_; first | refine cm rfl rfl ?_ | refine ad ?_ | refine su ?_ | refine np rfl rfl ?_ | refine eS ?_ | refine nS ?_) | (refine I.pk ?_; first | refine pT ?_ | refine pF ?_) | (refine I.cond ?_; first | refine cT ?_ | refine cF ?_ | refine cP ?_ | refine cN ?_) | refine mN ?_ | refine WX.nil ?_ | refine mU ?_ | refine mA ?_ | (refine I.bi ?_; first | refine ln rfl (by assumption) ?_ | refine l1 ?_ | refine lS ?_ | refine mi ?_ | refine ma ?_) | (refine I.ix ?_; first | refine ix rfl rfl ?_ | refine iI rfl rfl ?_ | refine iP ?_) | (refine I.st ?_; first | refine st rfl rfl ?_ | refine sG rfl rfl ?_) | refine ex ?_ | (refine I.un ?_; first | refine nD ?_ | refine nt ?_) | refine zY ?_ | refine bd ?_ | refine bx rfl (fun _ => ?_) | refine al (fun _ => ?_) | refine sl rfl rfl (by assumption) ?_ | refine cv rfl (by assumption) ?_)
    refine WX.call rfl nnew_ct rfl ?_
    rintro _ _ ⟨b, h0, rfl, rfl, hn0⟩
    simp only [List.cons_append, List.nil_append]
    repeat' (first | refine go ?_ | refine mv ?_ | (refine I.ld ?_; first | refine ld rfl ?_ | refine lE rfl (by assumption) ?_ | refine lA rfl ?_ | refine lF rfl (by assumption) ?_) | refine asg ?_ | (refine I.gd ?_; first | refine gy ?_ | refine gn ?_ | refine gnN ?_ | refine gu ?_ | refine guN ?_ | refine gT ?_ | refine gF ?_ | refine gS (fun _ => ?_) (fun _ => ?_)) | (refine I.fa ?_; first | refine fa ?_ | refine fE rfl ?_) | (refine I.nc ?_; first | refine nc ?_ | refine nE rfl ?_) | (refine I.bin ?_; first | refine cm rfl rfl ?_ | refine ad ?_ | refine su ?_ | refine np rfl rfl ?_ | refine eS ?_ | refine nS ?_) | (refine I.pk ?_; first | refine pT ?_ | refine pF ?_) | (refine I.cond ?_; first | refine cT ?_ | refine cF ?_ | refine cP ?_ | refine cN ?_) | refine mN ?_ | refine WX.nil ?_ | refine mU ?_ | refine mA ?_ | (refine I.bi ?_; first | refine ln rfl (by assumption) ?_ | refine l1 ?_ | refine lS ?_ | refine mi ?_ | refine ma ?_) | (refine I.ix ?_; first | refine ix rfl rfl ?_ | refine iI rfl rfl ?_ | refine iP ?_) | (refine I.st ?_; first | refine st rfl rfl ?_ | refine sG rfl rfl ?_) | refine ex ?_ | (refine I.un ?_; first | refine nD ?_ | refine nt ?_) | refine zY ?_ | refine bd ?_ | refine bx rfl (fun _ => ?_) | refine al (fun _ => ?_) | refine sl rfl rfl (by assumption) ?_ | refine cv rfl (by assumption) ?_)
    refine W.loop (α := Nat × Value × Hp × Hp) (fun x => x.1 ≤ acts.length ∧ IsNet (rowS acts x.1) b x.2.2.1 ∧ IsSl 68 (rowL acts x.1) x.2.1 x.2.2.2)
      (fun x => [(0, v), (3, .pointer (some ⟨b, 0, none⟩)), (4, x.2.1), (5, .int .i64 (x.1 : Int))]) (fun x => [x.2.2.1, x.2.2.2, h, R]) (fun x => acts.length - x.1)
      (0, .slice none 0 0, h0, []) ⟨Nat.zero_le _, hn0, IsSl.nil _⟩ (by repeat (first | exact Fsub.nil | refine Fsub.cons rfl ?_)) (by show Hsub _ [h0, [], h, R]; exact (Hsub.of_picks inferInstance)) ?_
    rintro ⟨k, u, h1, hu⟩ ⟨hk, hn, hus⟩
    simp only [] at hk hn hus ⊢
    have hll : (rowL acts k).length ≤ 256 := by
      have := (rowS_ok acts k).len
      rw [rowS_eq] at this
      simpa using this
    by_cases hlt : k < acts.length
    · obtain ⟨a, hka⟩ : ∃ a, acts[k]? = some a := ⟨_, List.getElem?_eq_getElem hlt⟩
      have hma := List.mem_of_getElem? hka
      have hbl := nmuch_bl hmu hma
      have hab := ha.by' a hma
      have hS := rowS_succ hka
      have hL := rowL_succ hka
      repeat' (first | refine go ?_ | refine mv ?_ | (refine I.ld ?_; first | refine ld rfl ?_ | refine lE rfl (by assumption) ?_ | refine lA rfl ?_ | refine lF rfl (by assumption) ?_) | refine asg ?_ | (refine I.gd ?_; first | refine gy ?_ | refine gn ?_ | refine gnN ?_ | refine gu ?_ | refine guN ?_ | refine gT ?_ | refine gF ?_ | refine gS (fun _ => ?_) (fun _ => ?_)) | (refine I.fa ?_; first | refine fa ?_ | refine fE rfl ?_) | (refine I.nc ?_; first | refine nc ?_ | refine nE rfl ?_) | (refine I.bin ?_; first | refine cm rfl rfl ?_ | refine ad ?_ | refine su ?_ | refine np rfl rfl ?_ | refine eS ?_ | refine nS ?_) | (refine I.pk ?_; first | refine pT ?_ | refine pF ?_) | (refine I.cond ?_; first | refine cT ?_ | refine cF ?_ | refine cP ?_ | refine cN ?_) | refine mN ?_ | refine WX.nil ?_ | refine mU ?_ | refine mA ?_ | (refine I.bi ?_; first | refine ln rfl (by assumption) ?_ | refine l1 ?_ | refine lS ?_ | refine mi ?_ | refine ma ?_) | (refine I.ix ?_; first | refine ix rfl rfl ?_ | refine iI rfl rfl ?_ | refine iP ?_) | (refine I.st ?_; first | refine st rfl rfl ?_ | refine sG rfl rfl ?_) | refine ex ?_ | (refine I.un ?_; first | refine nD ?_ | refine nt ?_) | refine zY ?_ | refine bd ?_ | refine bx rfl (fun _ => ?_) | refine al (fun _ => ?_) | refine sl rfl rfl (by assumption) ?_ | refine cv rfl (by assumption) ?_)
      refine W.mix (List.replicate 11 true ++ false :: List.replicate 5 true ++ [false, false, true]) [h] Try.mix (by kernel_rfl) ?_
      repeat' (first | refine go ?_ | refine mv ?_ | (refine I.ld ?_; first | refine ld rfl ?_ | refine lE rfl (by assumption) ?_ | refine lA rfl ?_ | refine lF rfl (by assumption) ?_) | refine asg ?_ | (refine I.gd ?_; first | refine gy ?_ | refine gn ?_ | refine gnN ?_ | refine gu ?_ | refine guN ?_ | refine gT ?_ | refine gF ?_ | refine gS (fun _ => ?_) (fun _ => ?_)) | (refine I.fa ?_; first | refine fa ?_ | refine fE rfl ?_) | (refine I.nc ?_; first | refine nc ?_ | refine nE rfl ?_) | (refine I.bin ?_; first | refine cm rfl rfl ?_ | refine ad ?_ | refine su ?_ | refine np rfl rfl ?_ | refine eS ?_ | refine nS ?_) | (refine I.pk ?_; first | refine pT ?_ | refine pF ?_) | (refine I.cond ?_; first | refine cT ?_ | refine cF ?_ | refine cP ?_ | refine cN ?_) | refine mN ?_ | refine WX.nil ?_ | refine mU ?_ | refine mA ?_ | (refine I.bi ?_; first | refine ln rfl (by assumption) ?_ | refine l1 ?_ | refine lS ?_ | refine mi ?_ | refine ma ?_) | (refine I.ix ?_; first | refine ix rfl rfl ?_ | refine iI rfl rfl ?_ | refine iP ?_) | (refine I.st ?_; first | refine st rfl rfl ?_ | refine sG rfl rfl ?_) | refine ex ?_ | (refine I.un ?_; first | refine nD ?_ | refine nt ?_) | refine zY ?_ | refine bd ?_ | refine bx rfl (fun _ => ?_) | refine al (fun _ => ?_) | refine sl rfl rfl (by assumption) ?_ | refine cv rfl (by assumption) ?_)
      refine I.bs ?_
      refine WX.lit (ys := ([] : List UInt8)) (vs := []) rfl rfl rfl rfl rfl rfl (by decide) rfl (fun v4 h4 hs4 => ?_)
      repeat' (first | refine go ?_ | refine mv ?_ | (refine I.ld ?_; first | refine ld rfl ?_ | refine lE rfl (by assumption) ?_ | refine lA rfl ?_ | refine lF rfl (by assumption) ?_) | refine asg ?_ | (refine I.gd ?_; first | refine gy ?_ | refine gn ?_ | refine gnN ?_ | refine gu ?_ | refine guN ?_ | refine gT ?_ | refine gF ?_ | refine gS (fun _ => ?_) (fun _ => ?_)) | (refine I.fa ?_; first | refine fa ?_ | refine fE rfl ?_) | (refine I.nc ?_; first | refine nc ?_ | refine nE rfl ?_) | (refine I.bin ?_; first | refine cm rfl rfl ?_ | refine ad ?_ | refine su ?_ | refine np rfl rfl ?_ | refine eS ?_ | refine nS ?_) | (refine I.pk ?_; first | refine pT ?_ | refine pF ?_) | (refine I.cond ?_; first | refine cT ?_ | refine cF ?_ | refine cP ?_ | refine cN ?_) | refine mN ?_ | refine WX.nil ?_ | refine mU ?_ | refine mA ?_ | (refine I.bi ?_; first | refine ln rfl (by assumption) ?_ | refine l1 ?_ | refine lS ?_ | refine mi ?_ | refine ma ?_) | (refine I.ix ?_; first | refine ix rfl rfl ?_ | refine iI rfl rfl ?_ | refine iP ?_) | (refine I.st ?_; first | refine st rfl rfl ?_ | refine sG rfl rfl ?_) | refine ex ?_ | (refine I.un ?_; first | refine nD ?_ | refine nt ?_) | refine zY ?_ | refine bd ?_ | refine bx rfl (fun _ => ?_) | refine al (fun _ => ?_) | refine sl rfl rfl (by assumption) ?_ | refine cv rfl (by assumption) ?_)
      refine WX.app rfl rfl hs4 hab rfl rfl (by decide) (by simp only [List.length_nil]; omega) rfl (fun v5 h5 hs5 => ?_)
      rw [List.nil_append] at hs5
      repeat' (first | refine go ?_ | refine mv ?_ | (refine I.ld ?_; first | refine ld rfl ?_ | refine lE rfl (by assumption) ?_ | refine lA rfl ?_ | refine lF rfl (by assumption) ?_) | refine asg ?_ | (refine I.gd ?_; first | refine gy ?_ | refine gn ?_ | refine gnN ?_ | refine gu ?_ | refine guN ?_ | refine gT ?_ | refine gF ?_ | refine gS (fun _ => ?_) (fun _ => ?_)) | (refine I.fa ?_; first | refine fa ?_ | refine fE rfl ?_) | (refine I.nc ?_; first | refine nc ?_ | refine nE rfl ?_) | (refine I.bin ?_; first | refine cm rfl rfl ?_ | refine ad ?_ | refine su ?_ | refine np rfl rfl ?_ | refine eS ?_ | refine nS ?_) | (refine I.pk ?_; first | refine pT ?_ | refine pF ?_) | (refine I.cond ?_; first | refine cT ?_ | refine cF ?_ | refine cP ?_ | refine cN ?_) | refine mN ?_ | refine WX.nil ?_ | refine mU ?_ | refine mA ?_ | (refine I.bi ?_; first | refine ln rfl (by assumption) ?_ | refine l1 ?_ | refine lS ?_ | refine mi ?_ | refine ma ?_) | (refine I.ix ?_; first | refine ix rfl rfl ?_ | refine iI rfl rfl ?_ | refine iP ?_) | (refine I.st ?_; first | refine st rfl rfl ?_ | refine sG rfl rfl ?_) | refine ex ?_ | (refine I.un ?_; first | refine nD ?_ | refine nt ?_) | refine zY ?_ | refine bd ?_ | refine bx rfl (fun _ => ?_) | refine al (fun _ => ?_) | refine sl rfl rfl (by assumption) ?_ | refine cv rfl (by assumption) ?_)
      refine WX.call rfl (send_ct hn (rowS_ok acts k) a.f a.t hs5.rs) rfl ?_
      rintro _ _ ⟨h6, rfl, rfl, hn'⟩
      rw [← hS] at hn'
      simp only [List.cons_append, List.nil_append]
      by_cases hE : (rowS acts k).sendE a.b.length = 0
      · rw [if_pos hE] at hL
        repeat' (first | refine go ?_ | refine mv ?_ | (refine I.ld ?_; first | refine ld rfl ?_ | refine lE rfl (by assumption) ?_ | refine lA rfl ?_ | refine lF rfl (by assumption) ?_) | refine asg ?_ | (refine I.gd ?_; first | refine gy ?_ | refine gn ?_ | refine gnN ?_ | refine gu ?_ | refine guN ?_ | refine gT ?_ | refine gF ?_ | refine gS (fun _ => ?_) (fun _ => ?_)) | (refine I.fa ?_; first | refine fa ?_ | refine fE rfl ?_) | (refine I.nc ?_; first | refine nc ?_ | refine nE rfl ?_) | (refine I.bin ?_; first | refine cm rfl rfl ?_ | refine ad ?_ | refine su ?_ | refine np rfl rfl ?_ | refine eS ?_ | refine nS ?_) | (refine I.pk ?_; first | refine pT ?_ | refine pF ?_) | (refine I.cond ?_; first | refine cT ?_ | refine cF ?_ | refine cP ?_ | refine cN ?_) | refine mN ?_ | refine WX.nil ?_ | refine mU ?_ | refine mA ?_ | (refine I.bi ?_; first | refine ln rfl (by assumption) ?_ | refine l1 ?_ | refine lS ?_ | refine mi ?_ | refine ma ?_) | (refine I.ix ?_; first | refine ix rfl rfl ?_ | refine iI rfl rfl ?_ | refine iP ?_) | (refine I.st ?_; first | refine st rfl rfl ?_ | refine sG rfl rfl ?_) | refine ex ?_ | (refine I.un ?_; first | refine nD ?_ | refine nt ?_) | refine zY ?_ | refine bd ?_ | refine bx rfl (fun _ => ?_) | refine al (fun _ => ?_) | refine sl rfl rfl (by assumption) ?_ | refine cv rfl (by assumption) ?_)
        refine I.bs ?_
        refine WX.lit (ys := [a]) rfl rfl rfl rfl rfl rfl (by decide) rfl (fun v7 h7 hs7 => ?_)
        refine WX.app rfl rfl hus hs7.rs rfl rfl (by decide) (by simp only [List.length_cons, List.length_nil]; omega) rfl (fun v8 h8 hs8 => ?_)
        rw [← hL] at hs8
        repeat' (first | refine go ?_ | refine mv ?_ | (refine I.ld ?_; first | refine ld rfl ?_ | refine lE rfl (by assumption) ?_ | refine lA rfl ?_ | refine lF rfl (by assumption) ?_) | refine asg ?_ | (refine I.gd ?_; first | refine gy ?_ | refine gn ?_ | refine gnN ?_ | refine gu ?_ | refine guN ?_ | refine gT ?_ | refine gF ?_ | refine gS (fun _ => ?_) (fun _ => ?_)) | (refine I.fa ?_; first | refine fa ?_ | refine fE rfl ?_) | (refine I.nc ?_; first | refine nc ?_ | refine nE rfl ?_) | (refine I.bin ?_; first | refine cm rfl rfl ?_ | refine ad ?_ | refine su ?_ | refine np rfl rfl ?_ | refine eS ?_ | refine nS ?_) | (refine I.pk ?_; first | refine pT ?_ | refine pF ?_) | (refine I.cond ?_; first | refine cT ?_ | refine cF ?_ | refine cP ?_ | refine cN ?_) | refine mN ?_ | refine WX.nil ?_ | refine mU ?_ | refine mA ?_ | (refine I.bi ?_; first | refine ln rfl (by assumption) ?_ | refine l1 ?_ | refine lS ?_ | refine mi ?_ | refine ma ?_) | (refine I.ix ?_; first | refine ix rfl rfl ?_ | refine iI rfl rfl ?_ | refine iP ?_) | (refine I.st ?_; first | refine st rfl rfl ?_ | refine sG rfl rfl ?_) | refine ex ?_ | (refine I.un ?_; first | refine nD ?_ | refine nt ?_) | refine zY ?_ | refine bd ?_ | refine bx rfl (fun _ => ?_) | refine al (fun _ => ?_) | refine sl rfl rfl (by assumption) ?_ | refine cv rfl (by assumption) ?_)
        exact D.round (k + 1, v8, h6, h8) ⟨by simp only []; omega, hn', hs8⟩ (by simp only []; omega) (by repeat (first | exact Fsub.nil | refine Fsub.cons rfl ?_)) (Hsub.of_picks inferInstance)
      · rw [if_neg hE] at hL
        rw [← hL] at hus
        repeat' (first | refine go ?_ | refine mv ?_ | (refine I.ld ?_; first | refine ld rfl ?_ | refine lE rfl (by assumption) ?_ | refine lA rfl ?_ | refine lF rfl (by assumption) ?_) | refine asg ?_ | (refine I.gd ?_; first | refine gy ?_ | refine gn ?_ | refine gnN ?_ | refine gu ?_ | refine guN ?_ | refine gT ?_ | refine gF ?_ | refine gS (fun _ => ?_) (fun _ => ?_)) | (refine I.fa ?_; first | refine fa ?_ | refine fE rfl ?_) | (refine I.nc ?_; first | refine nc ?_ | refine nE rfl ?_) | (refine I.bin ?_; first | refine cm rfl rfl ?_ | refine ad ?_ | refine su ?_ | refine np rfl rfl ?_ | refine eS ?_ | refine nS ?_) | (refine I.pk ?_; first | refine pT ?_ | refine pF ?_) | (refine I.cond ?_; first | refine cT ?_ | refine cF ?_ | refine cP ?_ | refine cN ?_) | refine mN ?_ | refine WX.nil ?_ | refine mU ?_ | refine mA ?_ | (refine I.bi ?_; first | refine ln rfl (by assumption) ?_ | refine l1 ?_ | refine lS ?_ | refine mi ?_ | refine ma ?_) | (refine I.ix ?_; first | refine ix rfl rfl ?_ | refine iI rfl rfl ?_ | refine iP ?_) | (refine I.st ?_; first | refine st rfl rfl ?_ | refine sG rfl rfl ?_) | refine ex ?_ | (refine I.un ?_; first | refine nD ?_ | refine nt ?_) | refine zY ?_ | refine bd ?_ | refine bx rfl (fun _ => ?_) | refine al (fun _ => ?_) | refine sl rfl rfl (by assumption) ?_ | refine cv rfl (by assumption) ?_)
        exact D.round (k + 1, u, h6, hu) ⟨by simp only []; omega, hn', hus⟩ (by simp only []; omega) (by repeat (first | exact Fsub.nil | refine Fsub.cons rfl ?_)) (Hsub.of_picks inferInstance)
    · obtain ⟨l, hl⟩ : ∃ l, l = rowL acts k := ⟨_, rfl⟩
      have hlm : ∀ a ∈ l, a ∈ acts := fun a h => rowL_mem k a (hl ▸ h)
      have hlb : ∀ a ∈ l, a.b.length ≤ 1024 := fun a h => by
        have := (rowS_ok acts k).b (amail a)
        rw [rowS_eq] at this
        exact this (List.mem_map_of_mem (hl ▸ h))
      rw [rowS_eq, ← hl] at hn
      rw [← hl] at hus hll
      have hur := hus.rs
      have hn : IsNet (frontS l 0) b h1 := hn
      repeat' (first | refine go ?_ | refine mv ?_ | (refine I.ld ?_; first | refine ld rfl ?_ | refine lE rfl (by assumption) ?_ | refine lA rfl ?_ | refine lF rfl (by assumption) ?_) | refine asg ?_ | (refine I.gd ?_; first | refine gy ?_ | refine gn ?_ | refine gnN ?_ | refine gu ?_ | refine guN ?_ | refine gT ?_ | refine gF ?_ | refine gS (fun _ => ?_) (fun _ => ?_)) | (refine I.fa ?_; first | refine fa ?_ | refine fE rfl ?_) | (refine I.nc ?_; first | refine nc ?_ | refine nE rfl ?_) | (refine I.bin ?_; first | refine cm rfl rfl ?_ | refine ad ?_ | refine su ?_ | refine np rfl rfl ?_ | refine eS ?_ | refine nS ?_) | (refine I.pk ?_; first | refine pT ?_ | refine pF ?_) | (refine I.cond ?_; first | refine cT ?_ | refine cF ?_ | refine cP ?_ | refine cN ?_) | refine mN ?_ | refine WX.nil ?_ | refine mU ?_ | refine mA ?_ | (refine I.bi ?_; first | refine ln rfl (by assumption) ?_ | refine l1 ?_ | refine lS ?_ | refine mi ?_ | refine ma ?_) | (refine I.ix ?_; first | refine ix rfl rfl ?_ | refine iI rfl rfl ?_ | refine iP ?_) | (refine I.st ?_; first | refine st rfl rfl ?_ | refine sG rfl rfl ?_) | refine ex ?_ | (refine I.un ?_; first | refine nD ?_ | refine nt ?_) | refine zY ?_ | refine bd ?_ | refine bx rfl (fun _ => ?_) | refine al (fun _ => ?_) | refine sl rfl rfl (by assumption) ?_ | refine cv rfl (by assumption) ?_)
      refine W.loop (α := Nat × Hp) (fun x => x.1 ≤ l.length ∧ IsNet (frontS l x.1) b x.2)
        (fun x => [(3, .pointer (some ⟨b, 0, none⟩)), (4, u), (6, .int .i64 (x.1 : Int))]) (fun x => [x.2, hu, h, R]) (fun x => l.length - x.1) (0, h1) ⟨Nat.zero_le _, hn⟩ (by repeat (first | exact Fsub.nil | refine Fsub.cons rfl ?_)) (Hsub.of_picks inferInstance) ?_
      rintro ⟨i, h2⟩ ⟨hi, hn2⟩
      simp only [] at hi hn2 ⊢
      have ok2 := frontS_ok (i := i) hll hlb
      by_cases hlt : i < l.length
      · obtain ⟨a, hia⟩ : ∃ a, l[i]? = some a := ⟨_, List.getElem?_eq_getElem hlt⟩
        have hab := ha.by' a (hlm a (List.mem_of_getElem? hia))
        have hd := deliver_ct hn2 ok2 0
        rw [frontS_delE hia, frontS_delM hia, frontS_del hia] at hd
        have hsr : ¬ ¬ (strOf a.b = strOf a.b) := fun h => h rfl
        repeat' (first | refine go ?_ | refine mv ?_ | (refine I.ld ?_; first | refine ld rfl ?_ | refine lE rfl (by assumption) ?_ | refine lA rfl ?_ | refine lF rfl (by assumption) ?_) | refine asg ?_ | (refine I.gd ?_; first | refine gy ?_ | refine gn ?_ | refine gnN ?_ | refine gu ?_ | refine guN ?_ | refine gT ?_ | refine gF ?_ | refine gS (fun _ => ?_) (fun _ => ?_)) | (refine I.fa ?_; first | refine fa ?_ | refine fE rfl ?_) | (refine I.nc ?_; first | refine nc ?_ | refine nE rfl ?_) | (refine I.bin ?_; first | refine cm rfl rfl ?_ | refine ad ?_ | refine su ?_ | refine np rfl rfl ?_ | refine eS ?_ | refine nS ?_) | (refine I.pk ?_; first | refine pT ?_ | refine pF ?_) | (refine I.cond ?_; first | refine cT ?_ | refine cF ?_ | refine cP ?_ | refine cN ?_) | refine mN ?_ | refine WX.nil ?_ | refine mU ?_ | refine mA ?_ | (refine I.bi ?_; first | refine ln rfl (by assumption) ?_ | refine l1 ?_ | refine lS ?_ | refine mi ?_ | refine ma ?_) | (refine I.ix ?_; first | refine ix rfl rfl ?_ | refine iI rfl rfl ?_ | refine iP ?_) | (refine I.st ?_; first | refine st rfl rfl ?_ | refine sG rfl rfl ?_) | refine ex ?_ | (refine I.un ?_; first | refine nD ?_ | refine nt ?_) | refine zY ?_ | refine bd ?_ | refine bx rfl (fun _ => ?_) | refine al (fun _ => ?_) | refine sl rfl rfl (by assumption) ?_ | refine cv rfl (by assumption) ?_)
        refine WX.call rfl hd rfl ?_
        rintro _ _ ⟨h3, hb3, u3, rfl, rfl, hn3, hs3⟩
        have hr3 : Rs a.b u3 hb3 := hs3.rs
        simp only [List.cons_append, List.nil_append]
        repeat' (first | refine go ?_ | refine mv ?_ | (refine I.ld ?_; first | refine ld rfl ?_ | refine lE rfl (by assumption) ?_ | refine lA rfl ?_ | refine lF rfl (by assumption) ?_) | refine asg ?_ | (refine I.gd ?_; first | refine gy ?_ | refine gn ?_ | refine gnN ?_ | refine gu ?_ | refine guN ?_ | refine gT ?_ | refine gF ?_ | refine gS (fun _ => ?_) (fun _ => ?_)) | (refine I.fa ?_; first | refine fa ?_ | refine fE rfl ?_) | (refine I.nc ?_; first | refine nc ?_ | refine nE rfl ?_) | (refine I.bin ?_; first | refine cm rfl rfl ?_ | refine ad ?_ | refine su ?_ | refine np rfl rfl ?_ | refine eS ?_ | refine nS ?_) | (refine I.pk ?_; first | refine pT ?_ | refine pF ?_) | (refine I.cond ?_; first | refine cT ?_ | refine cF ?_ | refine cP ?_ | refine cN ?_) | refine mN ?_ | refine WX.nil ?_ | refine mU ?_ | refine mA ?_ | (refine I.bi ?_; first | refine ln rfl (by assumption) ?_ | refine l1 ?_ | refine lS ?_ | refine mi ?_ | refine ma ?_) | (refine I.ix ?_; first | refine ix rfl rfl ?_ | refine iI rfl rfl ?_ | refine iP ?_) | (refine I.st ?_; first | refine st rfl rfl ?_ | refine sG rfl rfl ?_) | refine ex ?_ | (refine I.un ?_; first | refine nD ?_ | refine nt ?_) | refine zY ?_ | refine bd ?_ | refine bx rfl (fun _ => ?_) | refine al (fun _ => ?_) | refine sl rfl rfl (by assumption) ?_ | refine cv rfl (by assumption) ?_)
        refine W.quiet Try.mix (by kernel_rfl) ?_
        repeat' (first | refine go ?_ | refine mv ?_ | (refine I.ld ?_; first | refine ld rfl ?_ | refine lE rfl (by assumption) ?_ | refine lA rfl ?_ | refine lF rfl (by assumption) ?_) | refine asg ?_ | (refine I.gd ?_; first | refine gy ?_ | refine gn ?_ | refine gnN ?_ | refine gu ?_ | refine guN ?_ | refine gT ?_ | refine gF ?_ | refine gS (fun _ => ?_) (fun _ => ?_)) | (refine I.fa ?_; first | refine fa ?_ | refine fE rfl ?_) | (refine I.nc ?_; first | refine nc ?_ | refine nE rfl ?_) | (refine I.bin ?_; first | refine cm rfl rfl ?_ | refine ad ?_ | refine su ?_ | refine np rfl rfl ?_ | refine eS ?_ | refine nS ?_) | (refine I.pk ?_; first | refine pT ?_ | refine pF ?_) | (refine I.cond ?_; first | refine cT ?_ | refine cF ?_ | refine cP ?_ | refine cN ?_) | refine mN ?_ | refine WX.nil ?_ | refine mU ?_ | refine mA ?_ | (refine I.bi ?_; first | refine ln rfl (by assumption) ?_ | refine l1 ?_ | refine lS ?_ | refine mi ?_ | refine ma ?_) | (refine I.ix ?_; first | refine ix rfl rfl ?_ | refine iI rfl rfl ?_ | refine iP ?_) | (refine I.st ?_; first | refine st rfl rfl ?_ | refine sG rfl rfl ?_) | refine ex ?_ | (refine I.un ?_; first | refine nD ?_ | refine nt ?_) | refine zY ?_ | refine bd ?_ | refine bx rfl (fun _ => ?_) | refine al (fun _ => ?_) | refine sl rfl rfl (by assumption) ?_ | refine cv rfl (by assumption) ?_ | (refine I.bin ?_; first | refine WX.neqA (b := true) rfl rfl (ad_refl a.f) rfl ?_ | refine WX.neqA (b := true) rfl rfl (ad_refl a.t) rfl ?_))
        exact D.round (i + 1, h3) ⟨by simp only []; omega, hn3⟩ (by simp only []; omega) (by repeat (first | exact Fsub.nil | refine Fsub.cons rfl ?_)) (Hsub.of_picks inferInstance)
      · obtain rfl : i = l.length := by omega
        have hd := deliver_ct hn2 ok2 0
        rw [frontS_endE] at hd
        repeat' (first | refine go ?_ | refine mv ?_ | (refine I.ld ?_; first | refine ld rfl ?_ | refine lE rfl (by assumption) ?_ | refine lA rfl ?_ | refine lF rfl (by assumption) ?_) | refine asg ?_ | (refine I.gd ?_; first | refine gy ?_ | refine gn ?_ | refine gnN ?_ | refine gu ?_ | refine guN ?_ | refine gT ?_ | refine gF ?_ | refine gS (fun _ => ?_) (fun _ => ?_)) | (refine I.fa ?_; first | refine fa ?_ | refine fE rfl ?_) | (refine I.nc ?_; first | refine nc ?_ | refine nE rfl ?_) | (refine I.bin ?_; first | refine cm rfl rfl ?_ | refine ad ?_ | refine su ?_ | refine np rfl rfl ?_ | refine eS ?_ | refine nS ?_) | (refine I.pk ?_; first | refine pT ?_ | refine pF ?_) | (refine I.cond ?_; first | refine cT ?_ | refine cF ?_ | refine cP ?_ | refine cN ?_) | refine mN ?_ | refine WX.nil ?_ | refine mU ?_ | refine mA ?_ | (refine I.bi ?_; first | refine ln rfl (by assumption) ?_ | refine l1 ?_ | refine lS ?_ | refine mi ?_ | refine ma ?_) | (refine I.ix ?_; first | refine ix rfl rfl ?_ | refine iI rfl rfl ?_ | refine iP ?_) | (refine I.st ?_; first | refine st rfl rfl ?_ | refine sG rfl rfl ?_) | refine ex ?_ | (refine I.un ?_; first | refine nD ?_ | refine nt ?_) | refine zY ?_ | refine bd ?_ | refine bx rfl (fun _ => ?_) | refine al (fun _ => ?_) | refine sl rfl rfl (by assumption) ?_ | refine cv rfl (by assumption) ?_)
        refine WX.call rfl hd rfl ?_
        rintro _ _ ⟨h3, hb3, u3, rfl, rfl, hn3, hs3⟩
        have hlen3 := nlenP_ct hn3
        have he : ((frontS l l.length).del 0).ms = [] := by
          unfold NetS.del; rw [if_neg (by rw [frontS_endE]; decide)]; exact frontS_end
        rw [he] at hlen3
        simp only [List.cons_append, List.nil_append]
        repeat' (first | refine go ?_ | refine mv ?_ | (refine I.ld ?_; first | refine ld rfl ?_ | refine lE rfl (by assumption) ?_ | refine lA rfl ?_ | refine lF rfl (by assumption) ?_) | refine asg ?_ | (refine I.gd ?_; first | refine gy ?_ | refine gn ?_ | refine gnN ?_ | refine gu ?_ | refine guN ?_ | refine gT ?_ | refine gF ?_ | refine gS (fun _ => ?_) (fun _ => ?_)) | (refine I.fa ?_; first | refine fa ?_ | refine fE rfl ?_) | (refine I.nc ?_; first | refine nc ?_ | refine nE rfl ?_) | (refine I.bin ?_; first | refine cm rfl rfl ?_ | refine ad ?_ | refine su ?_ | refine np rfl rfl ?_ | refine eS ?_ | refine nS ?_) | (refine I.pk ?_; first | refine pT ?_ | refine pF ?_) | (refine I.cond ?_; first | refine cT ?_ | refine cF ?_ | refine cP ?_ | refine cN ?_) | refine mN ?_ | refine WX.nil ?_ | refine mU ?_ | refine mA ?_ | (refine I.bi ?_; first | refine ln rfl (by assumption) ?_ | refine l1 ?_ | refine lS ?_ | refine mi ?_ | refine ma ?_) | (refine I.ix ?_; first | refine ix rfl rfl ?_ | refine iI rfl rfl ?_ | refine iP ?_) | (refine I.st ?_; first | refine st rfl rfl ?_ | refine sG rfl rfl ?_) | refine ex ?_ | (refine I.un ?_; first | refine nD ?_ | refine nt ?_) | refine zY ?_ | refine bd ?_ | refine bx rfl (fun _ => ?_) | refine al (fun _ => ?_) | refine sl rfl rfl (by assumption) ?_ | refine cv rfl (by assumption) ?_)
        refine WX.callQ rfl hlen3 rfl ?_
        repeat' (first | refine go ?_ | refine mv ?_ | (refine I.ld ?_; first | refine ld rfl ?_ | refine lE rfl (by assumption) ?_ | refine lA rfl ?_ | refine lF rfl (by assumption) ?_) | refine asg ?_ | (refine I.gd ?_; first | refine gy ?_ | refine gn ?_ | refine gnN ?_ | refine gu ?_ | refine guN ?_ | refine gT ?_ | refine gF ?_ | refine gS (fun _ => ?_) (fun _ => ?_)) | (refine I.fa ?_; first | refine fa ?_ | refine fE rfl ?_) | (refine I.nc ?_; first | refine nc ?_ | refine nE rfl ?_) | (refine I.bin ?_; first | refine cm rfl rfl ?_ | refine ad ?_ | refine su ?_ | refine np rfl rfl ?_ | refine eS ?_ | refine nS ?_) | (refine I.pk ?_; first | refine pT ?_ | refine pF ?_) | (refine I.cond ?_; first | refine cT ?_ | refine cF ?_ | refine cP ?_ | refine cN ?_) | refine mN ?_ | refine WX.nil ?_ | refine mU ?_ | refine mA ?_ | (refine I.bi ?_; first | refine ln rfl (by assumption) ?_ | refine l1 ?_ | refine lS ?_ | refine mi ?_ | refine ma ?_) | (refine I.ix ?_; first | refine ix rfl rfl ?_ | refine iI rfl rfl ?_ | refine iP ?_) | (refine I.st ?_; first | refine st rfl rfl ?_ | refine sG rfl rfl ?_) | refine ex ?_ | (refine I.un ?_; first | refine nD ?_ | refine nt ?_) | refine zY ?_ | refine bd ?_ | refine bx rfl (fun _ => ?_) | refine al (fun _ => ?_) | refine sl rfl rfl (by assumption) ?_ | refine cv rfl (by assumption) ?_)
        exact D.fin1 [h] _ rfl rfl ⟨rfl, rfl⟩
end Go.Proofs.Ytllopddalmdbjaa
