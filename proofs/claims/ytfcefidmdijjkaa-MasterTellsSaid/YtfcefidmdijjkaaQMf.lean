/-
  Texts of one road, one behind the other.
-/
import Derived.Test.YtfcefidmdijjkaaQMe
/-
  master: Start, Crash.
-/
set_option linter.unusedVariables false
set_option linter.unusedSimpArgs false
namespace Go.Proofs.Ytfcefidmdijjkaa
open Go Go.Sl

/-- An up master's block with all its parts; a down one's. -/
abbrev MtU (dcs rn nn cl dc : Int) (d : Nat) (lg : Option Nat) (c : Nat → Cfg) (o : Nat → Option Nat) : Mt := ⟨dcs, rn, nn, cl, dc, d, true, lg, c 0, c 1, c 2, o 0, o 1, o 2⟩
abbrev MtD (dcs rn nn cl dc : Int) (d : Nat) : Mt := ⟨dcs, rn, nn, cl, dc, d, false, none, Cfg.z, Cfg.z, Cfg.z, none, none, none⟩
section
variable {dcs rn nn cl dc : Int} {d : Nat} {lg : Option Nat} {c : Nat → Cfg} {o : Nat → Option Nat}
theorem MtU.cfgSet {r : Nat} (hr : r < 3) (x : Cfg) : setAt (Mt.enc (MtU dcs rn nn cl dc d lg c o)) (8 + r * 13) x.enc = Mt.enc (MtU dcs rn nn cl dc d lg (updF c r x) o) := by
  rcases (by omega : r = 0 ∨ r = 1 ∨ r = 2) with rfl | rfl | rfl <;> kernel_rfl
theorem MtU.cfgIn {r : Nat} (hr : r < 3) (x : Cfg) : Nat.ble (0 + 8 + r * 13 + x.enc.length) (Mt.enc (MtU dcs rn nn cl dc d lg c o)).length = true := Nat.ble_eq_true_of_le (by show 0 + 8 + r * 13 + 13 ≤ 50; omega)
theorem MtU.wSet {r : Nat} (hr : r < 3) (b : Nat) : (Mt.enc (MtU dcs rn nn cl dc d lg c o)).set (0 + 47 + ((r : Nat) : Int).toNat * 1) (.pointer (some ⟨b, 0, none⟩)) = Mt.enc (MtU dcs rn nn cl dc d lg c (updF o r (some b))) := by
  rcases (by omega : r = 0 ∨ r = 1 ∨ r = 2) with rfl | rfl | rfl <;> kernel_rfl
theorem MtU.wIn {r : Nat} (hr : r < 3) : Nat.blt (0 + 47 + ((r : Nat) : Int).toNat * 1) (Mt.enc (MtU dcs rn nn cl dc d lg c o)).length = true := Nat.ble_eq_true_of_le (by show 0 + 47 + r * 1 + 1 ≤ 50; omega)
end
/-- The first watches. -/
def Wp : Nat → (Nat → Nat) → List Int → Hp → Prop
  | 0, _, _, h => h = []
  | k + 1, bq, xs, h => ∃ h1 h2, h = h1 ++ h2 ∧ Wp k bq xs h1 ∧ WAt WTy (bq k) xs h2
theorem Wp.upd {bq : Nat → Nat} {xs : List Int} {b : Nat} : ∀ {k j : Nat} {h : Hp}, k ≤ j → Wp k bq xs h → Wp k (updF bq j b) xs h
  | 0, _, _, _, h => h
  | k + 1, j, _, hk, ⟨h1, h2, e, a, w⟩ => ⟨h1, h2, e, Wp.upd (by omega) a, by rw [updF_ne (by omega)]; exact w⟩
theorem Wp.w3 {bq : Nat → Nat} {xs : List Int} {h : Hp} (w : Wp 3 bq xs h) : ∃ h', h = h' ∧ W3 WTy bq (fun _ => xs) h' := by
  obtain ⟨x2, h2, rfl, ⟨x1, h1, rfl, ⟨x0, h0, rfl, e, w0⟩, w1⟩, w2⟩ := w
  have e : x0 = [] := e
  subst e
  exact ⟨_, rfl, h0, h1, h2, by simp, w0, w1, w2⟩
theorem rep_upd {rs : List Rec} {k : Nat} {x : Rec} (hx : rs[k]? = some x) (h0 : 0 ≤ x.base) : rep (rs.take (k + 1)) = updF (rep (rs.take k)) x.base.toNat x.c := by
  funext i
  rw [List.take_add_one, hx]
  show rep (rs.take k ++ [x]) i = _
  rw [rep_snoc]
  unfold updF
  by_cases h : x.base = (i : Int)
  · rw [if_pos h, if_pos (by omega)]
  · rw [if_neg h, if_neg (by omega)]
theorem watches_upd {bq : Nat → Nat} {k b : Nat} : updF (fun i => if i < k then some (bq i) else none) k (some b) = fun i => if i < k + 1 then some (updF bq k b i) else none := by
  funext i
  unfold updF
  show (if i = k then some b else if i < k then some (bq i) else none) = if i < k + 1 then some (if i = k then b else bq i) else none
  by_cases h : i = k
  · subst h; rw [if_pos rfl, if_pos (by omega), if_pos rfl]
  · rw [if_neg h, if_neg h]
    by_cases h2 : i < k
    · rw [if_pos h2, if_pos (by omega)]
    · rw [if_neg h2, if_neg (by omega)]

theorem startUp_ct (b : Nat) (m : Mu) : Ct Try.prog 10 [.pointer (some ⟨b, 0, none⟩)] [MtBk b m.mt] (fun v H' => v = .tuple #[] ∧ H' = [MtBk b m.mt]) := by
  refine Ct.mk' Try.func10 rfl rfl rfl (fun g R => ?_)
  try simp only [List.cons_append]
  simp only [List.nil_append]
  repeat' (first | refine go ?_ | refine mv ?_ | (refine I.ld ?_; refine ld rfl ?_) | (refine I.fa ?_; refine fa ?_) | (refine I.nc ?_; refine nc ?_) | (refine I.cond ?_; refine cT ?_) | fail)
  exact D.fin0 [MtBk b m.mt] _ rfl ⟨rfl, rfl⟩
theorem recs_le {l : List Lf} (L : MLog l) : (recs l).length ≤ 1048576 := by
  have := recs_count L.ok.good
  have := L.ok.used
  omega
set_option maxRecDepth 4000 in
theorem mstart_ct (b : Nat) (dcs rn nn cl dc : Int) {d : Nat} {l : List Lf} (L : MLog l) {h : Hp} (hd : IsDk (dk l) d h) (hb : ∀ x ∈ recs l, 0 ≤ x.base ∧ x.base < 3) :
    Ct Try.prog 10 [.pointer (some ⟨b, 0, none⟩)] [MtBk b (MtD dcs rn nn cl dc d), h]
      (fun v H' => ∃ w bq h' hw, v = .tuple #[] ∧ H' = [MtBk b (Mu.mt ⟨dcs, rn, nn, cl, dc, d, w, rep (recs l), bq⟩), WBk w d (lastN l) 0, h', hw] ∧ IsDk (dk l) d h' ∧ W3 WTy bq (fun _ => List.replicate (newN nn) 0) hw) := by
  have hop := open_whole L.ok hd
  rw [outF_kind L.kind] at hop
  have hll := recs_le L
  refine Ct.mk' Try.func10 rfl rfl rfl (fun g R => ?_)
  try simp only [List.cons_append]
  simp only [List.nil_append]
  repeat' (first | refine go ?_ | refine mv ?_ | (refine I.ld ?_; refine ld rfl ?_) | (refine I.fa ?_; refine fa ?_) | (refine I.nc ?_; refine nc ?_) | (refine I.cond ?_; refine cF ?_) | fail)
  refine I.st ?_
  refine stN (Mt.enc (MtD dcs rn nn cl dc d)) (Mt.enc (MtU dcs rn nn cl dc d none (fun _ => Cfg.z) (fun _ => none))) rfl rfl ?_
  repeat' (first | refine go ?_ | refine mv ?_ | (refine I.ld ?_; refine ld rfl ?_) | refine asg ?_ | (refine I.fa ?_; refine fa ?_) | (refine I.nc ?_; refine nc ?_) | fail)
  refine WX.call rfl hop rfl ?_
  rintro _ _ ⟨w, u, h', ho, rfl, rfl, hd', hs⟩
  have hr := hs.rs
  obtain ⟨up, uc, rfl⟩ := hr.len
  simp only [List.cons_append, List.nil_append]
  repeat' (first | refine mv ?_ | (refine I.fa ?_; refine fa ?_) | (refine I.nc ?_; refine nc ?_) | refine ex ?_ | fail)
  refine I.st ?_
  refine stN (Mt.enc (MtU dcs rn nn cl dc d none (fun _ => Cfg.z) (fun _ => none))) (Mt.enc (MtU dcs rn nn cl dc d (some w) (fun _ => Cfg.z) (fun _ => none))) rfl rfl ?_
  repeat' (first | refine go ?_ | refine mv ?_ | refine asg ?_ | (refine I.bi ?_; refine ln rfl (by assumption) ?_) | fail)
  refine W.hp (H' := [WBk w d (lastN l) 0, h', ho, MtBk b (MtU dcs rn nn cl dc d (some w) (rep ((recs l).take 0)) (fun _ => none)), R]) rfl ?_
  refine W.loop (α := Nat) (fun k => k ≤ (recs l).length) (fun k => [(0, .pointer (some ⟨b, 0, none⟩)), (24, .slice up (recs l).length uc), (25, .int .i64 ((recs l).length : Int)), (26, .int .i64 (k : Int))])
    (fun k => [MtBk b (MtU dcs rn nn cl dc d (some w) (rep ((recs l).take k)) (fun _ => none)), WBk w d (lastN l) 0, h', ho, R]) (fun k => (recs l).length - k) 0 (Nat.zero_le _) (by repeat (first | exact Fsub.nil | refine Fsub.cons rfl ?_)) (Hsub.of_picks inferInstance) ?_
  intro k hk
  by_cases hlt : k < (recs l).length
  · obtain ⟨x, hx⟩ : ∃ x, (recs l)[k]? = some x := ⟨_, List.getElem?_eq_getElem hlt⟩
    obtain ⟨b0, b3⟩ := hb x (List.mem_of_getElem? hx)
    have hup := rep_upd hx b0
    repeat' (first | refine go ?_ | (refine I.bin ?_; refine cm rfl rfl ?_) | (refine I.cond ?_; refine cP ?_) | (refine I.ix ?_; refine ix rfl rfl ?_) | refine al (fun _ => ?_) | (refine I.ld ?_; refine WX.loadEW rfl hr hx rfl rfl ?_) | fail)
    rename_i b4
    refine WX.hp (H' := [[(b4, .cells (List.toArray Rec.z.enc) 80 (0, 0))], MtBk b (MtU dcs rn nn cl dc d (some w) (rep ((recs l).take k)) (fun _ => none)), WBk w d (lastN l) 0, h', ho, R]) rfl ?_
    refine I.st ?_
    refine sGW Rec.z.enc x.enc rfl rfl ?_
    repeat' (first | refine go ?_ | fail)
    refine W.mixN 8 (List.replicate 7 true) [[(b4, .cells (List.toArray x.enc) 80 (0, 0))]] Try.mix (by kernel_rfl) ?_
    repeat' (first | refine go ?_ | refine mv ?_ | (refine I.ld ?_; refine ld rfl ?_) | (refine I.fa ?_; refine fa ?_) | (refine I.nc ?_; refine nc ?_) | (refine I.bin ?_; refine ad ?_) | refine mN ?_ | refine mU ?_ | (refine I.ix ?_; refine iP ?_) | (refine I.ld ?_; refine lAN x.enc x.c.enc rfl ?_) | (refine I.st ?_; refine sGN (Mt.enc (MtU dcs rn nn cl dc d (some w) (rep ((recs l).take k)) (fun _ => none))) x.c.enc (Mt.enc (MtU dcs rn nn cl dc d (some w) (updF (rep ((recs l).take k)) x.base.toNat x.c) (fun _ => none))) rfl rfl ?_ (e := MtU.cfgSet (by omega) x.c) (hb := MtU.cfgIn (by omega) x.c)) | fail)
    rw [← hup]
    exact D.round (k + 1) (by omega) (by omega) (by repeat (first | exact Fsub.nil | refine Fsub.cons rfl ?_)) (Hsub.of_picks inferInstance)
  · obtain rfl : k = (recs l).length := by omega
    rw [List.take_length]
    repeat' (first | refine go ?_ | refine mv ?_ | (refine I.bin ?_; refine cm rfl rfl ?_) | (refine I.cond ?_; refine cN ?_) | fail)
    refine W.nilH ?_
    refine W.hp (H' := [[], MtBk b (MtU dcs rn nn cl dc d (some w) (rep (recs l)) (fun i => if i < 0 then some ((fun _ => 0) i) else none)), WBk w d (lastN l) 0, h', ho, R]) rfl ?_
    refine W.loop (α := Nat × (Nat → Nat) × Hp) (fun x => x.1 ≤ 3 ∧ Wp x.1 x.2.1 (List.replicate (newN nn) 0) x.2.2) (fun x => [(0, .pointer (some ⟨b, 0, none⟩)), (39, .int .i64 (x.1 : Int))])
      (fun x => [x.2.2, MtBk b (MtU dcs rn nn cl dc d (some w) (rep (recs l)) (fun i => if i < x.1 then some (x.2.1 i) else none)), WBk w d (lastN l) 0, h', R]) (fun x => 3 - x.1) (0, (fun _ => 0), []) ⟨Nat.zero_le _, rfl⟩ (by repeat (first | exact Fsub.nil | refine Fsub.cons rfl ?_)) (Hsub.of_picks inferInstance) ?_
    rintro ⟨k, bq, hw⟩ ⟨hk, hwp⟩
    simp only [] at hk hwp ⊢
    by_cases hlt : k < 3
    · repeat' (first | refine go ?_ | refine mv ?_ | refine asg ?_ | (refine I.bin ?_; refine cm rfl rfl ?_) | (refine I.cond ?_; refine cP ?_) | fail)
      refine W.mixN 8 (List.replicate 7 true ++ [false, true, true]) [MtBk b (MtU dcs rn nn cl dc d (some w) (rep (recs l)) (fun i => if i < k then some (bq i) else none))] Try.mix (by kernel_rfl) ?_
      repeat' (first | refine go ?_ | refine mv ?_ | (refine I.ld ?_; refine ld rfl ?_) | (refine I.fa ?_; refine fa ?_) | (refine I.nc ?_; refine nc ?_) | refine mU ?_ | refine mA ?_ | fail)
      refine WX.call rfl (new_ct nn) rfl ?_
      rintro _ _ ⟨b1, h1, rfl, rfl, hw1⟩
      simp only [List.cons_append, List.nil_append]
      repeat' (first | refine go ?_ | (refine I.fa ?_; refine fa ?_) | (refine I.nc ?_; refine nc ?_) | refine mN ?_ | refine mU ?_ | (refine I.ix ?_; refine iP ?_) | fail)
      refine I.st ?_
      refine stN (Mt.enc (MtU dcs rn nn cl dc d (some w) (rep (recs l)) (fun i => if i < k then some (bq i) else none))) (Mt.enc (MtU dcs rn nn cl dc d (some w) (rep (recs l)) (updF (fun i => if i < k then some (bq i) else none) k (some b1)))) rfl rfl ?_ (e := MtU.wSet hlt b1) (hb := MtU.wIn hlt)
      rw [watches_upd]
      repeat' (first | refine go ?_ | refine mv ?_ | (refine I.bin ?_; refine ad ?_) | fail)
      exact D.round (k + 1, updF bq k b1, hw ++ h1) ⟨by simp only []; omega, hw, h1, rfl, Wp.upd (Nat.le_refl _) hwp, by simp only []; rw [updF_same]; exact hw1⟩ (by simp only []; omega) (by repeat (first | exact Fsub.nil | refine Fsub.cons rfl ?_)) (Hsub.of_picks inferInstance)
    · obtain rfl : k = 3 := by omega
      obtain ⟨_, rfl, hw3⟩ := Wp.w3 hwp
      repeat' (first | refine go ?_ | (refine I.bin ?_; refine cm rfl rfl ?_) | (refine I.cond ?_; refine cF ?_) | fail)
      refine D.hp (H' := [hw, MtBk b (Mu.mt ⟨dcs, rn, nn, cl, dc, d, w, rep (recs l), bq⟩), WBk w d (lastN l) 0, h', R]) rfl ?_
      exact D.finE [MtBk b (Mu.mt ⟨dcs, rn, nn, cl, dc, d, w, rep (recs l), bq⟩), WBk w d (lastN l) 0, h', hw] _ rfl ⟨w, bq, h', hw, rfl, rfl, hd', hw3⟩

set_option maxRecDepth 4000 in
theorem mcrash_ct (b : Nat) (m : Mu) : Ct Try.prog 9 [.pointer (some ⟨b, 0, none⟩)] [MtBk b m.mt] (fun v H' => v = .tuple #[] ∧ H' = [MtBk b (MtD m.dcs m.rn m.nn m.cl m.dc m.d)]) := by
  refine Ct.mk' Try.func9 rfl rfl rfl (fun g R => ?_)
  try simp only [List.cons_append]
  simp only [List.nil_append]
  repeat' (first | refine go ?_ | refine mv ?_ | (refine I.ld ?_; refine ld rfl ?_) | (refine I.fa ?_; refine fa ?_) | (refine I.nc ?_; refine nc ?_) | (refine I.cond ?_; refine cT ?_) | fail)
  refine W.mixN 8 (List.replicate 14 true) [MtBk b m.mt] Try.mix (by kernel_rfl) ?_
  repeat' (first | refine go ?_ | refine mv ?_ | (refine I.ld ?_; refine ld rfl ?_) | (refine I.fa ?_; refine fa ?_) | (refine I.nc ?_; refine nc ?_) | refine mN ?_ | refine mU ?_ | (refine I.ld ?_; refine lAN (Mt.enc m.mt) [.int .i64 m.dcs, .int .i64 m.rn, .int .i64 m.nn, .int .i64 m.cl] rfl ?_) | (refine I.bd ?_; refine bdN (Mt.enc (MtD m.dcs m.rn m.nn m.cl m.dc m.d)) ?_) | (refine I.st ?_; refine sGW (Mt.enc m.mt) (Mt.enc (MtD m.dcs m.rn m.nn m.cl m.dc m.d)) rfl rfl ?_) | fail)
  exact D.finE [MtBk b (MtD m.dcs m.rn m.nn m.cl m.dc m.d)] _ rfl ⟨rfl, rfl⟩
theorem crashDn_ct (b : Nat) (dcs rn nn cl dc : Int) (d : Nat) : Ct Try.prog 9 [.pointer (some ⟨b, 0, none⟩)] [MtBk b (MtD dcs rn nn cl dc d)] (fun v H' => v = .tuple #[] ∧ H' = [MtBk b (MtD dcs rn nn cl dc d)]) := by
  refine Ct.mk' Try.func9 rfl rfl rfl (fun g R => ?_)
  try simp only [List.cons_append]
  simp only [List.nil_append]
  repeat' (first | refine go ?_ | refine mv ?_ | (refine I.ld ?_; refine ld rfl ?_) | (refine I.fa ?_; refine fa ?_) | (refine I.nc ?_; refine nc ?_) | (refine I.cond ?_; refine cF ?_) | fail)
  exact D.finE [MtBk b (MtD dcs rn nn cl dc d)] _ rfl ⟨rfl, rfl⟩
end Go.Proofs.Ytfcefidmdijjkaa

/-
  master: its state in plain Lean; where it lies; Up, ranged, node, Config, Silence, Suspect.
-/
set_option linter.unusedVariables false
set_option linter.unusedSimpArgs false
namespace Go.Proofs.Ytfcefidmdijjkaa
open Go Go.Sl

structure MS where
  (dcs cl : Int)
  (rn nn : Nat)
  dc : Int
  up : Bool
  lg : List Lf
  ch : Nat → Ch
  wt : Nat → List Int
structure MsOk (s : MS) : Prop where
  r1 : 1 ≤ s.rn
  r3 : s.rn ≤ 3
  n1 : 1 ≤ s.nn
  n4 : s.nn ≤ 4
  lg : MLog s.lg
  ch : ∀ r, r < s.rn → ChOk (s.ch r)
  rep : ∀ r, r < s.rn → rep (recs s.lg) r = (s.ch r).cfg
  base : ∀ x ∈ recs s.lg, 0 ≤ x.base ∧ x.base < (s.rn : Int)
  wl : ∀ r, (s.wt r).length = s.nn
  wk : ∀ r, Wok (s.wt r)
abbrev MS.mu (s : MS) (d w : Nat) (bq : Nat → Nat) : Mu := ⟨s.dcs, (s.rn : Int), (s.nn : Int), s.cl, s.dc, d, w, rep (recs s.lg), bq⟩
def IsMs (s : MS) (b : Nat) (h : Hp) : Prop :=
  (s.up = true ∧ ∃ d w torn bq hd hw, h = MtBk b (s.mu d w bq).mt ++ (WBk w d (lastN s.lg) torn ++ (hd ++ hw)) ∧ IsDk (dk s.lg) d hd ∧ W3 WTy bq s.wt hw) ∨
  (s.up = false ∧ ∃ d hd, h = MtBk b (MtD s.dcs s.rn s.nn s.cl s.dc d) ++ hd ∧ IsDk (dk s.lg) d hd)
def layS (s : MS) (r : Nat) (c : Ch) : MS × List Msg :=
  (⟨s.dcs, s.cl, s.rn, s.nn, s.dc, s.up, if roomB s.lg 1 = true then layL s.lg r c.cfg else s.lg, if roomB s.lg 1 = true then updF s.ch r c else s.ch, s.wt⟩, if roomB s.lg 1 = true then tells s.dc r s.nn c.cfg else [])
theorem MsOk.lay {s : MS} (ok : MsOk s) {r : Nat} (hr : r < s.rn) {c : Ch} (hc : ChOk c) : MsOk (layS s r c).1 := by
  unfold layS
  by_cases hrm : roomB s.lg 1 = true
  · obtain ⟨g1, g2, g3⟩ := lay_log ok.lg (r := r) (by have := ok.r3; omega) (Ch.cfgN hc) hrm
    simp only [hrm, if_true]
    refine ⟨ok.r1, ok.r3, ok.n1, ok.n4, g2, fun i hi => ?_, fun i hi => ?_, fun x hx => ?_, ok.wl, ok.wk⟩
    · show ChOk (updF s.ch r c i)
      unfold updF; split
      · exact hc
      · exact ok.ch i hi
    · show Go.Proofs.Ytfcefidmdijjkaa.rep (recs (layL s.lg r c.cfg)) i = (updF s.ch r c i).cfg
      rw [g3, rep_lay]
      unfold updF; split
      · rfl
      · exact ok.rep i hi
    · simp only [] at hx
      rw [g3] at hx
      rcases List.mem_append.1 hx with hx | hx
      · exact ok.base x hx
      · rw [List.mem_singleton.1 hx]; show (0 : Int) ≤ (r : Int) ∧ (r : Int) < (s.rn : Int); omega
  · simp only [hrm]
    exact ⟨ok.r1, ok.r3, ok.n1, ok.n4, ok.lg, ok.ch, ok.rep, ok.base, ok.wl, ok.wk⟩
/-- What lay does to the block and the log, told by the state. -/
theorem layR_s {s : MS} (ok : MsOk s) {r : Nat} (hr : r < s.rn) {c : Ch} (hc : ChOk c) :
    layR s.lg (rep (recs s.lg)) s.dc s.nn r c.cfg = ⟨(layS s r c).1.lg, rep (recs (layS s r c).1.lg), (layS s r c).2⟩ := by
  unfold layR layS
  by_cases hrm : roomB s.lg 1 = true
  · obtain ⟨g1, g2, g3⟩ := lay_log ok.lg (r := r) (by have := ok.r3; omega) (Ch.cfgN hc) hrm
    simp only [hrm, if_true]
    rw [g3]
    congr 1
    funext i
    rw [rep_lay]
    rfl
  · simp only [hrm]; rfl
/-- With another watch. -/
def MS.ww (s : MS) (wt : Nat → List Int) : MS := ⟨s.dcs, s.cl, s.rn, s.nn, s.dc, s.up, s.lg, s.ch, wt⟩
theorem MsOk.ww {s : MS} (ok : MsOk s) {wt : Nat → List Int} (h : ∀ r, (wt r).length = s.nn ∧ Wok (wt r)) : MsOk (s.ww wt) :=
  ⟨ok.r1, ok.r3, ok.n1, ok.n4, ok.lg, ok.ch, ok.rep, ok.base, fun r => (h r).1, fun r => (h r).2⟩
theorem MsOk.cfg {s : MS} (ok : MsOk s) {d w : Nat} {bq : Nat → Nat} {r : Nat} (hr : r < s.rn) : ((Mt.enc (s.mu d w bq).mt).drop (8 + r * 13)).take 13 = (s.ch r).cfg.enc := by
  rw [← ok.rep r hr]; exact Mt.cfgAt (s.mu d w bq) (by have := ok.r3; omega)
theorem Mt.wAtI (m : Mu) {r : Nat} (hr : r < 3) : (Mt.enc m.mt)[0 + 47 + ((r : Nat) : Int).toNat * 1]? = some (.pointer (some ⟨m.bq r, 0, none⟩)) := by
  rcases (by omega : r = 0 ∨ r = 1 ∨ r = 2) with rfl | rfl | rfl <;> rfl

def nodeB (s : MS) (a : Ad4) : Bool := decide (s.up = true ∧ a.k = 1 ∧ a.dc = s.dc ∧ (0 ≤ a.rg ∧ a.rg < (s.rn : Int)) ∧ (0 ≤ a.nd ∧ a.nd < (s.nn : Int)))
set_option maxHeartbeats 1000000 in
theorem mnode_ct {s : MS} (ok : MsOk s) (hup : s.up = true) (b d w : Nat) (bq : Nat → Nat) (a : Ad4) :
    Ct Try.prog 26 [.pointer (some ⟨b, 0, none⟩), .agg (List.toArray a.enc)] [MtBk b (s.mu d w bq).mt] (fun v H' => v = .bool (nodeB s a) ∧ H' = [MtBk b (s.mu d w bq).mt]) := by
  have r1 := ok.r1; have r3 := ok.r3; have n4 := ok.n4
  have hrg := ranged_ct b (m := (s.mu d w bq).mt) (by show (1 : Int) ≤ (s.rn : Int); omega) (by show (s.rn : Int) ≤ 3; omega) a.rg
  have hbt := between_ct a.nd 0 ((s.nn : Int) - 1)
  have hnn : (s.mu d w bq).mt.nn = (s.nn : Int) := rfl
  refine Ct.mk' Try.func26 rfl rfl rfl (fun g R => ?_)
  try simp only [List.cons_append]
  simp only [List.nil_append]
  by_cases h1 : a.k = 1
  · by_cases h2 : a.dc = s.dc
    · by_cases h3 : 0 ≤ a.rg ∧ a.rg < (s.rn : Int)
      · rw [show (decide ((s.mu d w bq).mt.up = true ∧ 0 ≤ a.rg ∧ a.rg < (s.mu d w bq).mt.rn)) = true from decide_eq_true ⟨rfl, h3⟩] at hrg
        repeat' (first | refine go ?_ | refine asg ?_ | refine bx rfl (fun _ => ?_) | fail)
        rename_i b3
        refine W.mixN 8 (List.replicate 16 true ++ [false] ++ List.replicate 10 true ++ [false, true]) [MtBk b (s.mu d w bq).mt, [(b3, .cells (List.toArray a.enc) 32 (0, 0))]] Try.mix (by kernel_rfl) ?_
        repeat' (first | refine go ?_ | refine mv ?_ | (refine I.ld ?_; refine ld rfl ?_) | refine asg ?_ | (refine I.gd ?_; first | refine gy ?_ | refine gT ?_) | (refine I.fa ?_; refine fa ?_) | (refine I.nc ?_; refine nc ?_) | (refine I.bin ?_; first | refine cm rfl rfl ?_ | refine su ?_) | (refine I.pk ?_; refine pT ?_) | refine mN ?_ | refine mU ?_ | refine mA ?_ | (refine I.cl ?_; first | refine WX.callQ rfl hrg rfl ?_ | refine WX.callQ rfl hbt rfl ?_) | fail)

        exact D.fin1 [MtBk b (s.mu d w bq).mt] _ rfl rfl ⟨by unfold nodeB; congr 1; rw [decide_eq_decide]; constructor <;> intro h <;> (first | (refine ⟨hup, h1, h2, h3, ?_⟩; omega) | omega), rfl⟩
      · rw [show (decide ((s.mu d w bq).mt.up = true ∧ 0 ≤ a.rg ∧ a.rg < (s.mu d w bq).mt.rn)) = false from decide_eq_false fun h => h3 h.2] at hrg
        repeat' (first | refine go ?_ | refine asg ?_ | refine bx rfl (fun _ => ?_) | fail)
        rename_i b3
        refine W.mixN 8 (List.replicate 16 true ++ [false] ++ List.replicate 10 true ++ [false, true]) [MtBk b (s.mu d w bq).mt, [(b3, .cells (List.toArray a.enc) 32 (0, 0))]] Try.mix (by kernel_rfl) ?_
        repeat' (first | refine go ?_ | refine mv ?_ | (refine I.ld ?_; refine ld rfl ?_) | refine asg ?_ | (refine I.gd ?_; first | refine gy ?_ | refine gn ?_ | refine gT ?_) | (refine I.fa ?_; refine fa ?_) | (refine I.nc ?_; refine nc ?_) | (refine I.bin ?_; refine cm rfl rfl ?_) | (refine I.pk ?_; first | refine pT ?_ | refine pF ?_) | refine mN ?_ | refine mU ?_ | refine mA ?_ | (refine I.cl ?_; refine WX.callQ rfl hrg rfl ?_) | fail)
        exact D.fin1 [MtBk b (s.mu d w bq).mt] _ rfl rfl ⟨by unfold nodeB; rw [decide_eq_false fun h => h3 h.2.2.2.1], rfl⟩
    · repeat' (first | refine go ?_ | refine asg ?_ | refine bx rfl (fun _ => ?_) | fail)
      rename_i b3
      refine W.mixN 8 (List.replicate 16 true ++ [false] ++ List.replicate 10 true ++ [false, true]) [MtBk b (s.mu d w bq).mt, [(b3, .cells (List.toArray a.enc) 32 (0, 0))]] Try.mix (by kernel_rfl) ?_
      repeat' (first | refine go ?_ | refine mv ?_ | (refine I.ld ?_; refine ld rfl ?_) | refine asg ?_ | (refine I.gd ?_; first | refine gy ?_ | refine gn ?_ | refine gT ?_ | refine gF ?_) | (refine I.fa ?_; refine fa ?_) | (refine I.nc ?_; refine nc ?_) | (refine I.bin ?_; refine cm rfl rfl ?_) | (refine I.pk ?_; first | refine pT ?_ | refine pF ?_) | refine mN ?_ | refine mU ?_ | refine mA ?_ | fail)
      exact D.fin1 [MtBk b (s.mu d w bq).mt] _ rfl rfl ⟨by unfold nodeB; rw [decide_eq_false fun h => h2 h.2.2.1], rfl⟩
  · repeat' (first | refine go ?_ | refine asg ?_ | refine bx rfl (fun _ => ?_) | fail)
    rename_i b3
    refine W.mixN 8 (List.replicate 16 true ++ [false] ++ List.replicate 10 true ++ [false, true]) [MtBk b (s.mu d w bq).mt, [(b3, .cells (List.toArray a.enc) 32 (0, 0))]] Try.mix (by kernel_rfl) ?_
    repeat' (first | refine go ?_ | refine mv ?_ | (refine I.ld ?_; refine ld rfl ?_) | refine asg ?_ | (refine I.gd ?_; first | refine gn ?_ | refine gF ?_) | (refine I.fa ?_; refine fa ?_) | (refine I.bin ?_; refine cm rfl rfl ?_) | (refine I.pk ?_; refine pF ?_) | refine mN ?_ | refine mU ?_ | refine mA ?_ | fail)
    exact D.fin1 [MtBk b (s.mu d w bq).mt] _ rfl rfl ⟨by unfold nodeB; rw [decide_eq_false fun h => h1 h.2.1], rfl⟩
end Go.Proofs.Ytfcefidmdijjkaa

/-
  master: Config, Suspect, Handle.
-/
set_option linter.unusedVariables false
set_option linter.unusedSimpArgs false
namespace Go.Proofs.Ytfcefidmdijjkaa
open Go Go.Sl

theorem layS_ct {s : MS} (ok : MsOk s) (b d w : Nat) (bq : Nat → Nat) {h : Hp} (hd : IsDk (dk s.lg) d h) {torn : Int} {r : Nat} (hr : r < s.rn) {c : Ch} (hc : ChOk c) :
    Ct Try.prog 19 [.pointer (some ⟨b, 0, none⟩), .int .i64 (r : Int), .agg (List.toArray c.cfg.enc)] [MtBk b (s.mu d w bq).mt, WBk w d (lastN s.lg) torn, h]
      (fun v H' => ∃ h' ho, H' = [MtBk b ((layS s r c).1.mu d w bq).mt, WBk w d (lastN (layS s r c).1.lg) torn, h', ho] ∧ IsDk (dk (layS s r c).1.lg) d h' ∧ IsSl 49 (layS s r c).2 v ho) := by
  have h1 := lay_ct b (s.mu d w bq) (nn := s.nn) rfl ok.n4 ok.lg hd (torn := torn) (r := r) (by have := ok.r3; omega) (Ch.cfgN hc)
  rw [show layR s.lg (s.mu d w bq).c (s.mu d w bq).dc s.nn r c.cfg = _ from layR_s ok hr hc] at h1
  exact h1

def confS (s : MS) (r : Int) : Cfg := if s.up = true ∧ 0 ≤ r ∧ r < (s.rn : Int) then (s.ch r.toNat).cfg else Cfg.z
theorem mconfU_ct {s : MS} (ok : MsOk s) (hup : s.up = true) (b d w : Nat) (bq : Nat → Nat) (r : Int) :
    Ct Try.prog 13 [.pointer (some ⟨b, 0, none⟩), .int .i64 r] [MtBk b (s.mu d w bq).mt] (fun v H' => v = .agg (List.toArray (confS s r).enc) ∧ H' = [MtBk b (s.mu d w bq).mt]) := by
  have r1 := ok.r1; have r3 := ok.r3; have n4 := ok.n4
  have hrg := ranged_ct b (m := (s.mu d w bq).mt) (by show (1 : Int) ≤ (s.rn : Int); omega) (by show (s.rn : Int) ≤ 3; omega) r
  refine Ct.mk' Try.func13 rfl rfl rfl (fun g R => ?_)
  try simp only [List.cons_append]
  simp only [List.nil_append]
  by_cases h3 : 0 ≤ r ∧ r < (s.rn : Int)
  · rw [show (decide ((s.mu d w bq).mt.up = true ∧ 0 ≤ r ∧ r < (s.mu d w bq).mt.rn)) = true from decide_eq_true ⟨rfl, h3⟩] at hrg
    have hc : confS s r = (s.ch r.toNat).cfg := by unfold confS; rw [if_pos ⟨hup, h3⟩]
    rw [hc]
    repeat' (first | refine go ?_ | refine mv ?_ | (refine I.fa ?_; refine fa ?_) | (refine I.nc ?_; refine nc ?_) | (refine I.cond ?_; refine cF ?_) | (refine I.ix ?_; refine iP ?_) | (refine I.un ?_; refine nt ?_) | refine al (fun _ => ?_) | (refine I.cl ?_; refine WX.callQ rfl hrg rfl ?_) | (refine I.ld ?_; refine lAN (Mt.enc (s.mu d w bq).mt) (s.ch r.toNat).cfg.enc rfl ?_ (hc := ok.cfg (by omega))) | (refine I.st ?_; refine sGW Cfg.z.enc (s.ch r.toNat).cfg.enc rfl rfl ?_) | fail)
    exact D.finR1 [MtBk b (s.mu d w bq).mt] _ rfl (.cellA rfl rfl .nil) ⟨rfl, rfl⟩
  · rw [show (decide ((s.mu d w bq).mt.up = true ∧ 0 ≤ r ∧ r < (s.mu d w bq).mt.rn)) = false from decide_eq_false fun h => h3 h.2] at hrg
    have hc : confS s r = Cfg.z := by unfold confS; rw [if_neg fun h => h3 h.2]
    rw [hc]
    repeat' (first | refine go ?_ | refine mv ?_ | (refine I.cond ?_; refine cT ?_) | (refine I.un ?_; refine nt ?_) | refine al (fun _ => ?_) | (refine I.cl ?_; refine WX.callQ rfl hrg rfl ?_) | (refine I.bd ?_; refine bdN Cfg.z.enc ?_) | (refine I.st ?_; refine sGW Cfg.z.enc Cfg.z.enc rfl rfl ?_) | fail)
    exact D.finR1 [MtBk b (s.mu d w bq).mt] _ rfl (.cellA rfl rfl .nil) ⟨rfl, rfl⟩
theorem mconfD_ct (b : Nat) (dcs cl dc : Int) {rn : Nat} (r1 : 1 ≤ rn) (r3 : rn ≤ 3) (nn : Int) (d : Nat) (r : Int) :
    Ct Try.prog 13 [.pointer (some ⟨b, 0, none⟩), .int .i64 r] [MtBk b (MtD dcs rn nn cl dc d)] (fun v H' => v = .agg (List.toArray Cfg.z.enc) ∧ H' = [MtBk b (MtD dcs rn nn cl dc d)]) := by
  have hrg := ranged_ct b (m := MtD dcs rn nn cl dc d) (by show (1 : Int) ≤ (rn : Int); omega) (by show (rn : Int) ≤ 3; omega) r
  rw [show (decide ((MtD dcs rn nn cl dc d).up = true ∧ 0 ≤ r ∧ r < (MtD dcs rn nn cl dc d).rn)) = false from decide_eq_false fun h => by cases h.1] at hrg
  refine Ct.mk' Try.func13 rfl rfl rfl (fun g R => ?_)
  try simp only [List.cons_append]
  simp only [List.nil_append]
  repeat' (first | refine go ?_ | refine mv ?_ | (refine I.cond ?_; refine cT ?_) | (refine I.un ?_; refine nt ?_) | refine al (fun _ => ?_) | (refine I.cl ?_; refine WX.callQ rfl hrg rfl ?_) | (refine I.bd ?_; refine bdN Cfg.z.enc ?_) | (refine I.st ?_; refine sGW Cfg.z.enc Cfg.z.enc rfl rfl ?_) | fail)
  exact D.finR1 [MtBk b (MtD dcs rn nn cl dc d)] _ rfl (.cellA rfl rfl .nil) ⟨rfl, rfl⟩
theorem mconf_ct {s : MS} (ok : MsOk s) {b : Nat} {h : Hp} (hm : IsMs s b h) (r : Int) :
    Ct Try.prog 13 [.pointer (some ⟨b, 0, none⟩), .int .i64 r] [h] (fun v H' => v = .agg (List.toArray (confS s r).enc) ∧ H' = [h]) := by
  rcases hm with ⟨hup, d, w, torn, bq, hd, hw, rfl, _, _⟩ | ⟨hup, d, hd, rfl, _⟩
  · exact (mconfU_ct ok hup b d w bq r).ext
  · have := (mconfD_ct b s.dcs s.cl s.dc ok.r1 ok.r3 s.nn d r).ext (r := hd)
    rw [show confS s r = Cfg.z by unfold confS; rw [if_neg (by rw [hup]; simp)]]
    exact this
theorem mup_ct {s : MS} {b : Nat} {h : Hp} (hm : IsMs s b h) :
    Ct Try.prog 14 [.pointer (some ⟨b, 0, none⟩)] [h] (fun v H' => v = .bool s.up ∧ H' = [h]) := by
  rcases hm with ⟨hup, d, w, torn, bq, hd, hw, rfl, _, _⟩ | ⟨hup, d, hd, rfl, _⟩
  · rw [hup]; exact (up_ct b (s.mu d w bq).mt).ext
  · rw [hup]; exact (up_ct b (MtD s.dcs s.rn s.nn s.cl s.dc d)).ext

def susS (s : MS) (r n : Int) : MS × List Msg := if s.up = true ∧ 0 ≤ r ∧ r < (s.rn : Int) then (match dropL (s.ch r.toNat) n with | some c => layS s r.toNat c | none => (s, [])) else (s, [])
/-- What a call that may announce leaves. -/
def MsPost (q : MS × List Msg) (b : Nat) (v : Value) (H' : HH) : Prop := ∃ h' ho, H' = [h', ho] ∧ IsMs q.1 b h' ∧ IsSl 49 q.2 v ho
theorem msus_ct {s : MS} (ok : MsOk s) {b : Nat} {h : Hp} (hm : IsMs s b h) (r n : Int) :
    Ct Try.prog 8 [.pointer (some ⟨b, 0, none⟩), .int .i64 r, .int .i64 n] [h] (MsPost (susS s r n) b) := by
  have r1 := ok.r1; have r3 := ok.r3; have n4 := ok.n4
  have hm0 := id hm
  rcases hm with ⟨hup, d, w, torn, bq, hd, hw, rfl, hdk, hw3⟩ | ⟨hup, d, hd, rfl, hdk⟩
  · have hrg := ranged_ct b (m := (s.mu d w bq).mt) (by show (1 : Int) ≤ (s.rn : Int); omega) (by show (s.rn : Int) ≤ 3; omega) r
    by_cases h3 : 0 ≤ r ∧ r < (s.rn : Int)
    · rw [show (decide ((s.mu d w bq).mt.up = true ∧ 0 ≤ r ∧ r < (s.mu d w bq).mt.rn)) = true from decide_eq_true ⟨rfl, h3⟩] at hrg
      obtain ⟨k, rfl⟩ : ∃ k : Nat, r = (k : Int) := ⟨r.toNat, by omega⟩
      have hk : k < s.rn := by omega
      have hdc := drop_ct (ok.ch k hk) n
      have hS : susS s (k : Int) n = match dropL (s.ch k) n with | some c => layS s k c | none => (s, []) := by unfold susS; rw [if_pos ⟨hup, h3⟩]; rfl
      rw [hS]
      refine Ct.mk' Try.func8 rfl rfl rfl (fun g R => ?_)
      try simp only [List.cons_append]
      simp only [List.nil_append]
      refine W.flat (H' := [MtBk b (s.mu d w bq).mt, WBk w d (lastN s.lg) torn, hd, hw, R]) (by simp) ?_
      repeat' (first | refine go ?_ | refine mv ?_ | refine asg ?_ | (refine I.fa ?_; refine fa ?_) | (refine I.nc ?_; refine nc ?_) | (refine I.cond ?_; refine cF ?_) | (refine I.ix ?_; refine iP ?_) | refine ex ?_ | (refine I.un ?_; refine nt ?_) | refine al (fun _ => ?_) | (refine I.cl ?_; first | refine WX.callQ rfl hrg rfl ?_ | refine WX.callQ rfl hdc rfl ?_) | (refine I.ld ?_; refine lAN (Mt.enc (s.mu d w bq).mt) (s.ch k).cfg.enc rfl ?_ (hc := ok.cfg hk)) | fail)
      cases hdl : dropL (s.ch k) n with
      | none =>
        repeat' (first | refine go ?_ | refine mv ?_ | refine asg ?_ | (refine I.cond ?_; refine cT ?_) | (refine I.un ?_; refine nt ?_) | (refine I.st ?_; refine sGW Cfg.z.enc Cfg.z.enc rfl rfl ?_) | fail)
        refine D.nilH ?_
        exact D.fin1 [MtBk b (s.mu d w bq).mt ++ (WBk w d (lastN s.lg) torn ++ (hd ++ hw)), []] _ rfl rfl ⟨_, [], rfl, hm0, IsSl.nil _⟩
      | some c =>
        have hc := (ok.ch k hk).dropL hdl
        repeat' (first | refine go ?_ | refine mv ?_ | refine asg ?_ | (refine I.cond ?_; refine cF ?_) | (refine I.un ?_; refine nt ?_) | (refine I.st ?_; refine sGW Cfg.z.enc c.cfg.enc rfl rfl ?_) | (refine I.ld ?_; refine lAN c.cfg.enc c.cfg.enc rfl ?_) | fail)
        refine WX.call rfl (layS_ct ok b d w bq hdk (torn := torn) hk hc) rfl ?_
        rintro v _ ⟨h', ho, rfl, hdk', hs'⟩
        simp only [List.cons_append, List.nil_append]
        repeat' (first | refine go ?_ | refine asg ?_ | fail)
        exact D.fin1 [MtBk b ((layS s k c).1.mu d w bq).mt ++ (WBk w d (lastN (layS s k c).1.lg) torn ++ (h' ++ hw)), ho] _ rfl rfl ⟨_, _, rfl, .inl ⟨hup, d, w, torn, bq, h', hw, rfl, hdk', hw3⟩, hs'⟩
    · rw [show (decide ((s.mu d w bq).mt.up = true ∧ 0 ≤ r ∧ r < (s.mu d w bq).mt.rn)) = false from decide_eq_false fun h => h3 h.2] at hrg
      have hS : susS s r n = (s, []) := by unfold susS; rw [if_neg fun h => h3 h.2]
      rw [hS]
      refine Ct.mk' Try.func8 rfl rfl rfl (fun g R => ?_)
      try simp only [List.cons_append]
      simp only [List.nil_append]
      refine W.flat (H' := [MtBk b (s.mu d w bq).mt, WBk w d (lastN s.lg) torn, hd, hw, R]) (by simp) ?_
      repeat' (first | refine go ?_ | refine mv ?_ | refine asg ?_ | (refine I.cond ?_; refine cT ?_) | (refine I.un ?_; refine nt ?_) | (refine I.cl ?_; refine WX.callQ rfl hrg rfl ?_) | fail)
      refine D.nilH ?_
      exact D.fin1 [MtBk b (s.mu d w bq).mt ++ (WBk w d (lastN s.lg) torn ++ (hd ++ hw)), []] _ rfl rfl ⟨_, [], rfl, hm0, IsSl.nil _⟩
  · have hrg := ranged_ct b (m := MtD s.dcs s.rn s.nn s.cl s.dc d) (by show (1 : Int) ≤ (s.rn : Int); omega) (by show (s.rn : Int) ≤ 3; omega) r
    rw [show (decide ((MtD s.dcs s.rn s.nn s.cl s.dc d).up = true ∧ 0 ≤ r ∧ r < (MtD s.dcs s.rn s.nn s.cl s.dc d).rn)) = false from decide_eq_false fun h => by cases h.1] at hrg
    have hS : susS s r n = (s, []) := by unfold susS; rw [if_neg (by rw [hup]; simp)]
    rw [hS]
    refine Ct.mk' Try.func8 rfl rfl rfl (fun g R => ?_)
    try simp only [List.cons_append]
    simp only [List.nil_append]
    refine W.flat (H' := [MtBk b (MtD s.dcs s.rn s.nn s.cl s.dc d), hd, R]) (by simp) ?_
    repeat' (first | refine go ?_ | refine mv ?_ | refine asg ?_ | (refine I.cond ?_; refine cT ?_) | (refine I.un ?_; refine nt ?_) | (refine I.cl ?_; refine WX.callQ rfl hrg rfl ?_) | fail)
    refine D.nilH ?_
    exact D.fin1 [MtBk b (MtD s.dcs s.rn s.nn s.cl s.dc d) ++ hd, []] _ rfl rfl ⟨_, [], rfl, hm0, IsSl.nil _⟩
end Go.Proofs.Ytfcefidmdijjkaa

/-
  master: Handle.
-/
set_option linter.unusedVariables false
set_option linter.unusedSimpArgs false
namespace Go.Proofs.Ytfcefidmdijjkaa
open Go Go.Sl

def foundM (dc : Int) (x : Msg) (c : Cfg) : Msg := { Msg.z with kind := 2, fr := ⟨2, dc, 0, 0⟩, to := x.fr, ix := x.ix, op := x.op, tr := x.tr, cf := c }
def MS.heard (s : MS) (r : Nat) (n : Int) : MS := s.ww (updF s.wt r (heard1 (s.wt r) n))
theorem MsOk.heard {s : MS} (ok : MsOk s) (r : Nat) (n : Int) : MsOk (s.heard r n) := ok.ww fun i => by
  unfold updF
  split
  · rename_i h
    subst h
    exact ⟨by rw [heard1_len]; exact ok.wl i, (ok.wk i).heard [n]⟩
  · exact ⟨ok.wl i, ok.wk i⟩
def helloS (s : MS) (r : Nat) (n ep : Int) : MS × List Msg := match addL (s.ch r) n with
  | some c => layS (s.heard r n) r c
  | none => (s.heard r n, if ep < (s.ch r).ep then [tellM s.dc r n (s.ch r).cfg] else [])
def caughtS (s : MS) (r : Nat) (ep : Int) : MS × List Msg := match growL (s.ch r) with
  | some c => if ep = (s.ch r).ep then layS s r c else (s, [])
  | none => (s, [])
def handleS (s : MS) (x : Msg) : MS × List Msg :=
  if s.up = false then (s, [])
  else if x.kind = 1 then (s, if 0 ≤ x.ix ∧ x.ix < (s.rn : Int) then [foundM s.dc x (s.ch x.ix.toNat).cfg] else [])
  else if nodeB s x.fr = false then (s, [])
  else if x.kind = 10 then helloS s x.fr.rg.toNat x.fr.nd x.ep
  else if x.kind = 11 then caughtS s x.fr.rg.toNat x.ep
  else (s, [])
theorem MsOk.epAt {s : MS} (ok : MsOk s) {d w : Nat} {bq : Nat → Nat} {r : Nat} (hr : r < s.rn) : (Mt.enc (s.mu d w bq).mt)[0 + 8 + ((r : Nat) : Int).toNat * 13 + 0]? = some (.int .i64 (s.ch r).ep) := by
  have h3 := ok.r3
  have h := ok.rep r hr
  have e : (s.ch r).ep = (Go.Proofs.Ytfcefidmdijjkaa.rep (recs s.lg) r).ep := by rw [h]; rfl
  rw [e]
  rcases (by omega : r = 0 ∨ r = 1 ∨ r = 2) with rfl | rfl | rfl <;> rfl
theorem mhandleDn_ct {s : MS} {b : Nat} {h : Hp} (hm : IsMs s b h) (hup : s.up = false) (x : Msg) :
    Ct Try.prog 11 [.pointer (some ⟨b, 0, none⟩), .agg (List.toArray x.enc)] [h] (MsPost (handleS s x) b) := by
  have hm0 := id hm
  rw [show handleS s x = (s, []) by unfold handleS; rw [if_pos hup]]
  rcases hm with ⟨hu, _⟩ | ⟨_, d, hd, rfl, hdk⟩
  · rw [hup] at hu; cases hu
  refine Ct.mk' Try.func11 rfl rfl rfl (fun g R => ?_)
  try simp only [List.cons_append]
  simp only [List.nil_append]
  refine W.flat (H' := [MtBk b (MtD s.dcs s.rn s.nn s.cl s.dc d), hd, R]) (by simp) ?_
  repeat' (first | refine go ?_ | refine asg ?_ | refine bx rfl (fun _ => ?_) | fail)
  rename_i b3
  refine W.mixN 8 (List.replicate 8 true) [[(b3, .cells (List.toArray x.enc) 49 (0, 0))]] Try.mix (by kernel_rfl) ?_
  repeat' (first | refine go ?_ | refine mv ?_ | (refine I.ld ?_; refine ld rfl ?_) | refine asg ?_ | (refine I.fa ?_; refine fa ?_) | (refine I.nc ?_; refine nc ?_) | (refine I.cond ?_; refine cT ?_) | refine mN ?_ | refine WX.nil ?_ | refine mU ?_ | (refine I.un ?_; refine nt ?_) | fail)
  refine D.nilH ?_
  exact D.fin1 [MtBk b (MtD s.dcs s.rn s.nn s.cl s.dc d) ++ hd, []] _ rfl rfl ⟨_, [], rfl, hm0, IsSl.nil _⟩

/-- The same with the parts apart. -/
def MsPostL (q : MS × List Msg) (b : Nat) (v : Value) (H' : HH) : Prop := ∃ d w torn bq hd hw ho, q.1.up = true ∧ H' = [MtBk b (q.1.mu d w bq).mt, WBk w d (lastN q.1.lg) torn, hd, hw, ho] ∧ IsDk (dk q.1.lg) d hd ∧ W3 WTy bq q.1.wt hw ∧ IsSl 49 q.2 v ho
theorem MsPostL.pack {P : Program} {f : FuncId} {args : List Value} {x1 x2 x3 x4 : Hp} {q : MS × List Msg} {b : Nat} (h : Ct P f args [x1, x2, x3, x4] (MsPostL q b)) : Ct P f args [x1 ++ (x2 ++ (x3 ++ x4))] (MsPost q b) :=
  Ct.pack h (by simp) fun v H' ⟨d, w, torn, bq, hd, hw, ho, h1, h2, h3, h4, h5⟩ =>
    ⟨[MtBk b (q.1.mu d w bq).mt ++ (WBk w d (lastN q.1.lg) torn ++ (hd ++ hw)), ho], by rw [h2]; simp, _, ho, rfl, .inl ⟨h1, d, w, torn, bq, hd, hw, rfl, h3, h4⟩, h5⟩
set_option maxRecDepth 4000 in
set_option maxHeartbeats 1000000 in
theorem mhandleUp_ct {s : MS} (ok : MsOk s) {b : Nat} {h : Hp} (hm : IsMs s b h) (hup : s.up = true) (x : Msg) :
    Ct Try.prog 11 [.pointer (some ⟨b, 0, none⟩), .agg (List.toArray x.enc)] [h] (MsPost (handleS s x) b) := by
  have r1 := ok.r1; have r3 := ok.r3; have n4 := ok.n4
  have hm0 := id hm
  rcases hm with ⟨_, d, w, torn, bq, hd, hw, rfl, hdk, hw3⟩ | ⟨hu, _⟩
  rotate_left
  · rw [hup] at hu; cases hu
  have hrg := ranged_ct b (m := (s.mu d w bq).mt) (by show (1 : Int) ≤ (s.rn : Int); omega) (by show (s.rn : Int) ≤ 3; omega) x.ix
  have hnd := mnode_ct ok hup b d w bq x.fr
  refine MsPostL.pack ?_
  by_cases k1 : x.kind = 1
  · by_cases h3 : 0 ≤ x.ix ∧ x.ix < (s.rn : Int)
    · rw [show (decide ((s.mu d w bq).mt.up = true ∧ 0 ≤ x.ix ∧ x.ix < (s.mu d w bq).mt.rn)) = true from decide_eq_true ⟨rfl, h3⟩] at hrg
      have hS : handleS s x = (s, [foundM s.dc x (s.ch x.ix.toNat).cfg]) := by
        unfold handleS; rw [if_neg (by rw [hup]; decide), if_pos k1, if_pos h3]
      rw [hS]
      skip
      refine Ct.mk' Try.func11 rfl rfl rfl (fun g R => ?_)
      try simp only [List.cons_append]
      simp only [List.nil_append]
      repeat' (first | refine go ?_ | refine asg ?_ | refine bx rfl (fun _ => ?_) | fail)
      rename_i b3
      refine W.mixN 8 (List.replicate 8 true) [[(b3, .cells (List.toArray x.enc) 49 (0, 0))]] Try.mix (by kernel_rfl) ?_
      repeat' (first | refine go ?_ | refine mv ?_ | (refine I.ld ?_; refine ld rfl ?_) | refine asg ?_ | (refine I.fa ?_; refine fa ?_) | (refine I.nc ?_; refine nc ?_) | (refine I.bin ?_; refine cm rfl rfl ?_) | (refine I.cond ?_; first | refine cT ?_ | refine cF ?_ | refine cP ?_) | refine mN ?_ | refine WX.nil ?_ | refine mU ?_ | (refine I.un ?_; refine nt ?_) | (refine I.cl ?_; refine WX.callQ rfl hrg rfl ?_) | fail)
      refine W.mixN 8 (List.replicate 21 true ++ [false]) [MtBk b (s.mu d w bq).mt, [(b3, .cells (List.toArray x.enc) 49 (0, 0))]] Try.mix (by kernel_rfl) ?_
      repeat' (first | refine go ?_ | refine mv ?_ | (refine I.ld ?_; refine ld rfl ?_) | (refine I.fa ?_; refine fa ?_) | (refine I.nc ?_; refine nc ?_) | refine mU ?_ | refine mA ?_ | (refine I.ix ?_; refine iP ?_) | (refine I.ld ?_; first | refine lAN (t := 32) (Msg.enc x) (Ad4.enc x.fr) rfl ?_ | refine lAN (t := 37) (Mt.enc (s.mu d w bq).mt) (s.ch x.ix.toNat).cfg.enc rfl ?_ (hc := ok.cfg (by omega))) | (refine I.bd ?_; first | refine bdN (t := 32) [.int .i64 2, .int .i64 s.dc, .int .i64 0, .int .i64 0] ?_ (hf' := by exact rfl) | refine bdN (foundM s.dc x (s.ch x.ix.toNat).cfg).enc ?_) | fail)
      refine I.bs ?_
      refine WX.lit (ys := [foundM s.dc x (s.ch x.ix.toNat).cfg]) rfl rfl rfl rfl rfl rfl (by decide) rfl (fun v2 h2 hs2 => ?_)
      repeat' (first | refine go ?_ | refine asg ?_ | refine mN ?_ | fail)
      exact D.fin1 [MtBk b (s.mu d w bq).mt, WBk w d (lastN s.lg) torn, hd, hw, h2] _ rfl rfl ⟨d, w, torn, bq, hd, hw, h2, hup, rfl, hdk, hw3, hs2⟩
    · rw [show (decide ((s.mu d w bq).mt.up = true ∧ 0 ≤ x.ix ∧ x.ix < (s.mu d w bq).mt.rn)) = false from decide_eq_false fun h => h3 h.2] at hrg
      have hS : handleS s x = (s, []) := by unfold handleS; rw [if_neg (by rw [hup]; decide), if_pos k1, if_neg h3]
      rw [hS]
      skip
      refine Ct.mk' Try.func11 rfl rfl rfl (fun g R => ?_)
      try simp only [List.cons_append]
      simp only [List.nil_append]
      repeat' (first | refine go ?_ | refine asg ?_ | refine bx rfl (fun _ => ?_) | fail)
      rename_i b3
      refine W.mixN 8 (List.replicate 8 true) [[(b3, .cells (List.toArray x.enc) 49 (0, 0))]] Try.mix (by kernel_rfl) ?_
      repeat' (first | refine go ?_ | refine mv ?_ | (refine I.ld ?_; refine ld rfl ?_) | refine asg ?_ | (refine I.fa ?_; refine fa ?_) | (refine I.nc ?_; refine nc ?_) | (refine I.bin ?_; refine cm rfl rfl ?_) | (refine I.cond ?_; first | refine cF ?_ | refine cP ?_) | refine mN ?_ | refine WX.nil ?_ | refine mU ?_ | (refine I.un ?_; refine nt ?_) | (refine I.cl ?_; refine WX.callQ rfl hrg rfl ?_) | fail)
      refine D.nilH ?_
      exact D.fin1 [MtBk b (s.mu d w bq).mt, WBk w d (lastN s.lg) torn, hd, hw, []] _ rfl rfl ⟨d, w, torn, bq, hd, hw, [], hup, rfl, hdk, hw3, IsSl.nil _⟩
  · cases hnb : nodeB s x.fr with
    | false =>
      rw [hnb] at hnd
      have hS : handleS s x = (s, []) := by unfold handleS; rw [if_neg (by rw [hup]; decide), if_neg k1, if_pos hnb]
      rw [hS]
      skip
      refine Ct.mk' Try.func11 rfl rfl rfl (fun g R => ?_)
      try simp only [List.cons_append]
      simp only [List.nil_append]
      repeat' (first | refine go ?_ | refine asg ?_ | refine bx rfl (fun _ => ?_) | fail)
      rename_i b3
      refine W.mixN 8 (List.replicate 8 true) [[(b3, .cells (List.toArray x.enc) 49 (0, 0))]] Try.mix (by kernel_rfl) ?_
      repeat' (first | refine go ?_ | refine mv ?_ | (refine I.ld ?_; refine ld rfl ?_) | refine asg ?_ | (refine I.fa ?_; refine fa ?_) | (refine I.nc ?_; refine nc ?_) | (refine I.bin ?_; refine cm rfl rfl ?_) | (refine I.cond ?_; first | refine cT ?_ | refine cF ?_ | refine cN ?_) | refine mN ?_ | refine WX.nil ?_ | refine mU ?_ | (refine I.un ?_; refine nt ?_) | (refine I.cl ?_; refine WX.callQ rfl hnd rfl ?_) | (refine I.ld ?_; refine lAN (Msg.enc x) (Ad4.enc x.fr) rfl ?_) | fail)
      refine D.nilH ?_
      exact D.fin1 [MtBk b (s.mu d w bq).mt, WBk w d (lastN s.lg) torn, hd, hw, []] _ rfl rfl ⟨d, w, torn, bq, hd, hw, [], hup, rfl, hdk, hw3, IsSl.nil _⟩
    | true =>
      rw [hnb] at hnd
      obtain ⟨-, -, -, hr3, hn3⟩ := of_decide_eq_true (show decide _ = true from hnb)
      have hk : x.fr.rg.toNat < s.rn := by omega
      have hrI : ((x.fr.rg.toNat : Nat) : Int) = x.fr.rg := Int.toNat_of_nonneg hr3.1
      by_cases k10 : x.kind = 10
      · have hS : handleS s x = helloS s x.fr.rg.toNat x.fr.nd x.ep := by unfold handleS; rw [if_neg (by rw [hup]; decide), if_neg k1, if_neg (by rw [hnb]; decide), if_pos k10]
        rw [hS]
        have hwt := with_ct (ok.ch _ hk) x.fr.nd
        have ok1 := ok.heard x.fr.rg.toNat x.fr.nd
        generalize hrr : x.fr.rg.toNat = r at *
        generalize hq : helloS s r x.fr.nd x.ep = q
        skip
        refine Ct.mk' Try.func11 rfl rfl rfl (fun g R => ?_)
        try simp only [List.cons_append]
        simp only [List.nil_append]
        repeat' (first | refine go ?_ | refine asg ?_ | refine bx rfl (fun _ => ?_) | fail)
        rename_i b3
        refine W.mixN 8 (List.replicate 8 true) [[(b3, .cells (List.toArray x.enc) 49 (0, 0))]] Try.mix (by kernel_rfl) ?_
        repeat' (first | refine go ?_ | refine mv ?_ | (refine I.ld ?_; refine ld rfl ?_) | refine asg ?_ | (refine I.fa ?_; refine fa ?_) | (refine I.nc ?_; refine nc ?_) | (refine I.bin ?_; refine cm rfl rfl ?_) | (refine I.cond ?_; first | refine cF ?_ | refine cP ?_ | refine cN ?_) | refine mN ?_ | refine WX.nil ?_ | refine mU ?_ | (refine I.ix ?_; refine iP ?_) | (refine I.un ?_; refine nt ?_) | (refine I.cl ?_; refine WX.callQ rfl hnd rfl ?_) | (refine I.ld ?_; refine lAN (Msg.enc x) (Ad4.enc x.fr) rfl ?_) | (refine I.ld ?_; refine lN (Mt.enc (s.mu d w bq).mt) (.pointer (some ⟨bq r, 0, none⟩)) rfl ?_ (hc := by first | (rw [← hrI]; exact Mt.wAtI (s.mu d w bq) (by omega)))) | fail)
        refine I.bs ?_
        refine WX.lit (ys := [x.fr.nd]) rfl rfl rfl rfl rfl rfl (by decide) rfl (fun v2 h2 hs2 => ?_)
        skip
        refine WX.call rfl (W3.ct hw3 (r := r) (by omega) (fun y hy => heard_ct hy hs2.rs (by simp only [List.length_cons, List.length_nil]; omega))) rfl ?_
        rintro _ _ ⟨rfl, hw', rfl, hw3'⟩
        have hw3' : W3 WTy bq (s.heard r x.fr.nd).wt hw' := hw3'
        simp only [List.cons_append, List.nil_append]
        repeat' (first | refine go ?_ | refine mv ?_ | (refine I.fa ?_; refine fa ?_) | (refine I.nc ?_; refine nc ?_) | (refine I.ix ?_; refine iP ?_) | (refine I.ld ?_; refine lAN (Mt.enc (s.mu d w bq).mt) (s.ch r).cfg.enc rfl ?_ (hc := by rw [← hrr]; exact ok.cfg (by omega))) | fail)
        refine WX.callQ rfl hwt rfl ?_
        cases hal : addL (s.ch r) x.fr.nd with
        | some c =>
          have hc := (ok.ch r hk).addL hal
          have hlay := layS_ct ok1 b d w bq hdk (torn := torn) hk hc
          rw [hrI] at hlay
          change Ct _ _ _ [MtBk b (s.mu d w bq).mt, WBk w d (lastN s.lg) torn, hd] _ at hlay
          obtain rfl : layS (s.heard r x.fr.nd) r c = q := by rw [← hq]; unfold helloS; rw [hal]
          repeat' (first | refine go ?_ | refine mv ?_ | refine asg ?_ | (refine I.cond ?_; refine cT ?_) | refine ex ?_ | refine al (fun _ => ?_) | (refine I.st ?_; refine sGW Cfg.z.enc c.cfg.enc rfl rfl ?_) | (refine I.ld ?_; refine lAN c.cfg.enc c.cfg.enc rfl ?_) | fail)
          refine WX.call rfl hlay rfl ?_
          rintro v _ ⟨h', ho, rfl, hdk', hs'⟩
          simp only [List.cons_append, List.nil_append]
          repeat' (first | refine go ?_ | refine asg ?_ | fail)
          exact D.fin1 [MtBk b ((layS (s.heard r x.fr.nd) r c).1.mu d w bq).mt, WBk w d (lastN (layS (s.heard r x.fr.nd) r c).1.lg) torn, h', hw', ho] _ rfl rfl ⟨d, w, torn, bq, h', hw', ho, hup, rfl, hdk', hw3', hs'⟩
        | none =>
          obtain rfl : (s.heard r x.fr.nd, if x.ep < (s.ch r).ep then [tellM s.dc r x.fr.nd (s.ch r).cfg] else []) = q := by rw [← hq]; unfold helloS; rw [hal]
          have htold := told_ct b (s.mu d w bq) (r := r) (by omega) x.fr.nd
          rw [hrI, show (s.mu d w bq).c r = (s.ch r).cfg from ok.rep r hk] at htold
          repeat' (first | refine go ?_ | refine mv ?_ | refine asg ?_ | (refine I.cond ?_; refine cF ?_) | refine ex ?_ | refine al (fun _ => ?_) | (refine I.st ?_; refine sGW Cfg.z.enc Cfg.z.enc rfl rfl ?_) | fail)
          rename_i b7
          refine W.mixN 8 (List.replicate 10 true) [[(b3, .cells (List.toArray x.enc) 49 (0, 0))], MtBk b (s.mu d w bq).mt] Try.mix (by kernel_rfl) ?_
          by_cases hep : x.ep < (s.ch r).ep
          · skip
            repeat' (first | refine go ?_ | refine mv ?_ | (refine I.ld ?_; refine ld rfl ?_) | (refine I.fa ?_; refine fa ?_) | (refine I.nc ?_; refine nc ?_) | (refine I.bin ?_; refine cm rfl rfl ?_) | (refine I.cond ?_; refine cP ?_) | refine mN ?_ | refine WX.nil ?_ | refine mU ?_ | (refine I.ix ?_; refine iP ?_) | (refine I.ld ?_; refine lN (Mt.enc (s.mu d w bq).mt) (.int .i64 (s.ch r).ep) rfl ?_ (hc := by rw [← hrI]; exact ok.epAt hk)) | fail)
            refine WX.callQ rfl htold rfl ?_
            refine I.bs ?_
            refine WX.lit (ys := [tellM s.dc r x.fr.nd (s.ch r).cfg]) rfl rfl rfl rfl rfl rfl (by decide) rfl (fun v5 h5 hs5 => ?_)
            repeat' (first | refine go ?_ | refine asg ?_ | fail)
            exact D.fin1 [MtBk b (s.mu d w bq).mt, WBk w d (lastN s.lg) torn, hd, hw', h5] _ rfl rfl ⟨d, w, torn, bq, hd, hw', h5, hup, rfl, hdk, hw3', by simp only []; rw [if_pos hep]; exact hs5⟩
          · skip
            repeat' (first | refine go ?_ | refine mv ?_ | (refine I.ld ?_; refine ld rfl ?_) | refine asg ?_ | (refine I.fa ?_; refine fa ?_) | (refine I.nc ?_; refine nc ?_) | (refine I.bin ?_; refine cm rfl rfl ?_) | (refine I.cond ?_; refine cN ?_) | refine mN ?_ | refine WX.nil ?_ | refine mU ?_ | (refine I.ix ?_; refine iP ?_) | (refine I.ld ?_; refine lN (Mt.enc (s.mu d w bq).mt) (.int .i64 (s.ch r).ep) rfl ?_ (hc := by rw [← hrI]; exact ok.epAt hk)) | fail)
            refine D.nilH ?_
            exact D.fin1 [MtBk b (s.mu d w bq).mt, WBk w d (lastN s.lg) torn, hd, hw', []] _ rfl rfl ⟨d, w, torn, bq, hd, hw', [], hup, rfl, hdk, hw3', by simp only []; rw [if_neg hep]; exact IsSl.nil _⟩
      · by_cases k11 : x.kind = 11
        · have hS : handleS s x = caughtS s x.fr.rg.toNat x.ep := by unfold handleS; rw [if_neg (by rw [hup]; decide), if_neg k1, if_neg (by rw [hnb]; decide), if_neg k10, if_pos k11]
          rw [hS]
          have hgw := grow_ct (ok.ch _ hk)
          generalize hrr : x.fr.rg.toNat = r at *
          generalize hq : caughtS s r x.ep = q
          skip
          refine Ct.mk' Try.func11 rfl rfl rfl (fun g R => ?_)
          try simp only [List.cons_append]
          simp only [List.nil_append]
          repeat' (first | refine go ?_ | refine asg ?_ | refine bx rfl (fun _ => ?_) | fail)
          rename_i b3
          refine W.mixN 8 (List.replicate 8 true) [[(b3, .cells (List.toArray x.enc) 49 (0, 0))]] Try.mix (by kernel_rfl) ?_
          repeat' (first | refine go ?_ | refine mv ?_ | (refine I.ld ?_; refine ld rfl ?_) | refine asg ?_ | (refine I.fa ?_; refine fa ?_) | (refine I.nc ?_; refine nc ?_) | (refine I.bin ?_; refine cm rfl rfl ?_) | (refine I.cond ?_; first | refine cF ?_ | refine cP ?_ | refine cN ?_) | refine mN ?_ | refine WX.nil ?_ | refine mU ?_ | (refine I.ix ?_; refine iP ?_) | (refine I.un ?_; refine nt ?_) | (refine I.cl ?_; refine WX.callQ rfl hnd rfl ?_) | (refine I.ld ?_; refine lAN (Msg.enc x) (Ad4.enc x.fr) rfl ?_) | (refine I.ld ?_; refine lAN (t := 37) (Mt.enc (s.mu d w bq).mt) (s.ch r).cfg.enc rfl ?_ (hc := by rw [← hrr]; exact ok.cfg (by omega))) | fail)
          refine WX.callQ rfl hgw rfl ?_
          cases hgl : growL (s.ch r) with
          | none =>
            obtain rfl : (s, []) = q := by rw [← hq]; unfold caughtS; rw [hgl]
            repeat' (first | refine go ?_ | refine mv ?_ | refine asg ?_ | refine ex ?_ | refine al (fun _ => ?_) | (refine I.st ?_; refine sGW Cfg.z.enc Cfg.z.enc rfl rfl ?_) | fail)
            rename_i b7
            refine W.mixN 8 (List.replicate 13 true) [[(b3, .cells (List.toArray x.enc) 49 (0, 0))], MtBk b (s.mu d w bq).mt] Try.mix (by kernel_rfl) ?_
            repeat' (first | refine go ?_ | refine mv ?_ | refine asg ?_ | (refine I.gd ?_; refine gn ?_) | (refine I.pk ?_; refine pF ?_) | (refine I.cond ?_; refine cF ?_) | refine mN ?_ | refine WX.nil ?_ | refine mU ?_ | fail)
            refine D.nilH ?_
            exact D.fin1 [MtBk b (s.mu d w bq).mt, WBk w d (lastN s.lg) torn, hd, hw, []] _ rfl rfl ⟨d, w, torn, bq, hd, hw, [], hup, rfl, hdk, hw3, IsSl.nil _⟩
          | some c =>
            have hc := (ok.ch r hk).growL hgl
            have hlay := layS_ct ok b d w bq hdk (torn := torn) hk hc
            rw [hrI] at hlay
            repeat' (first | refine go ?_ | refine mv ?_ | refine asg ?_ | refine ex ?_ | refine al (fun _ => ?_) | (refine I.st ?_; refine sGW Cfg.z.enc c.cfg.enc rfl rfl ?_) | fail)
            rename_i b7
            refine W.mixN 8 (List.replicate 13 true) [[(b3, .cells (List.toArray x.enc) 49 (0, 0))], MtBk b (s.mu d w bq).mt] Try.mix (by kernel_rfl) ?_
            by_cases hep : x.ep = (s.ch r).ep
            · obtain rfl : layS s r c = q := by rw [← hq]; unfold caughtS; rw [hgl]; exact (if_pos hep).symm
              repeat' (first | refine go ?_ | refine mv ?_ | (refine I.ld ?_; refine ld rfl ?_) | (refine I.gd ?_; refine gy ?_) | (refine I.fa ?_; refine fa ?_) | (refine I.nc ?_; refine nc ?_) | (refine I.bin ?_; refine cm rfl rfl ?_) | (refine I.pk ?_; refine pT ?_) | (refine I.cond ?_; refine cP ?_) | refine mN ?_ | refine WX.nil ?_ | refine mU ?_ | (refine I.ix ?_; refine iP ?_) | (refine I.ld ?_; first | refine lN (Mt.enc (s.mu d w bq).mt) (.int .i64 (s.ch r).ep) rfl ?_ (hc := by rw [← hrI]; exact ok.epAt hk) | refine lAN c.cfg.enc c.cfg.enc rfl ?_) | fail)
              refine WX.call rfl hlay rfl ?_
              rintro v _ ⟨h', ho, rfl, hdk', hs'⟩
              simp only [List.cons_append, List.nil_append]
              repeat' (first | refine go ?_ | refine asg ?_ | fail)
              exact D.fin1 [MtBk b ((layS s r c).1.mu d w bq).mt, WBk w d (lastN (layS s r c).1.lg) torn, h', hw, ho] _ rfl rfl ⟨d, w, torn, bq, h', hw, ho, hup, rfl, hdk', hw3, hs'⟩
            · obtain rfl : (s, []) = q := by rw [← hq]; unfold caughtS; rw [hgl]; exact (if_neg hep).symm
              repeat' (first | refine go ?_ | refine mv ?_ | (refine I.ld ?_; refine ld rfl ?_) | refine asg ?_ | (refine I.gd ?_; refine gy ?_) | (refine I.fa ?_; refine fa ?_) | (refine I.nc ?_; refine nc ?_) | (refine I.bin ?_; refine cm rfl rfl ?_) | (refine I.pk ?_; refine pT ?_) | (refine I.cond ?_; refine cN ?_) | refine mN ?_ | refine WX.nil ?_ | refine mU ?_ | (refine I.ix ?_; refine iP ?_) | (refine I.ld ?_; refine lN (Mt.enc (s.mu d w bq).mt) (.int .i64 (s.ch r).ep) rfl ?_ (hc := by rw [← hrI]; exact ok.epAt hk)) | fail)
              refine D.nilH ?_
              exact D.fin1 [MtBk b (s.mu d w bq).mt, WBk w d (lastN s.lg) torn, hd, hw, []] _ rfl rfl ⟨d, w, torn, bq, hd, hw, [], hup, rfl, hdk, hw3, IsSl.nil _⟩
        · have hS : handleS s x = (s, []) := by unfold handleS; rw [if_neg (by rw [hup]; decide), if_neg k1, if_neg (by rw [hnb]; decide), if_neg k10, if_neg k11]
          rw [hS]
          skip
          refine Ct.mk' Try.func11 rfl rfl rfl (fun g R => ?_)
          try simp only [List.cons_append]
          simp only [List.nil_append]
          repeat' (first | refine go ?_ | refine asg ?_ | refine bx rfl (fun _ => ?_) | fail)
          rename_i b3
          refine W.mixN 8 (List.replicate 8 true) [[(b3, .cells (List.toArray x.enc) 49 (0, 0))]] Try.mix (by kernel_rfl) ?_
          repeat' (first | refine go ?_ | refine mv ?_ | (refine I.ld ?_; refine ld rfl ?_) | refine asg ?_ | (refine I.fa ?_; refine fa ?_) | (refine I.nc ?_; refine nc ?_) | (refine I.bin ?_; refine cm rfl rfl ?_) | (refine I.cond ?_; first | refine cF ?_ | refine cN ?_) | refine mN ?_ | refine WX.nil ?_ | refine mU ?_ | (refine I.un ?_; refine nt ?_) | (refine I.cl ?_; refine WX.callQ rfl hnd rfl ?_) | (refine I.ld ?_; refine lAN (Msg.enc x) (Ad4.enc x.fr) rfl ?_) | fail)
          refine D.nilH ?_
          exact D.fin1 [MtBk b (s.mu d w bq).mt, WBk w d (lastN s.lg) torn, hd, hw, []] _ rfl rfl ⟨d, w, torn, bq, hd, hw, [], hup, rfl, hdk, hw3, IsSl.nil _⟩
theorem mhandle_ct {s : MS} (ok : MsOk s) {b : Nat} {h : Hp} (hm : IsMs s b h) (x : Msg) :
    Ct Try.prog 11 [.pointer (some ⟨b, 0, none⟩), .agg (List.toArray x.enc)] [h] (MsPost (handleS s x) b) := by
  cases hup : s.up with
  | false => exact mhandleDn_ct hm hup x
  | true => exact mhandleUp_ct ok hm hup x
end Go.Proofs.Ytfcefidmdijjkaa

/-
  master: Tick.
-/
set_option linter.unusedVariables false
set_option linter.unusedSimpArgs false
namespace Go.Proofs.Ytfcefidmdijjkaa
open Go Go.Sl

def MS.tick (s : MS) (r : Nat) : MS := s.ww (updF s.wt r (tickL (s.wt r)))
theorem MsOk.tick {s : MS} (ok : MsOk s) (r : Nat) : MsOk (s.tick r) := ok.ww fun i => by
  unfold updF
  split
  · rename_i h
    subst h
    exact ⟨by unfold tickL; rw [List.length_map]; exact ok.wl i, (ok.wk i).tick⟩
  · exact ⟨ok.wl i, ok.wk i⟩
def tick1S (s : MS) (r : Nat) : MS × List Msg := match (silL (tickL (s.wt r)) 4).findSome? (dropL (s.ch r)) with
  | some c => layS (s.tick r) r c
  | none => (s.tick r, [])
def tickK (s : MS) : Nat → MS × List Msg
  | 0 => (s, [])
  | k + 1 => ((tick1S (tickK s k).1 k).1, (tickK s k).2 ++ (tick1S (tickK s k).1 k).2)
def tickS (s : MS) : MS × List Msg := if s.up = true then tickK s s.rn else (s, [])
structure SameM (s t : MS) : Prop where
  dcs : t.dcs = s.dcs
  cl : t.cl = s.cl
  rn : t.rn = s.rn
  nn : t.nn = s.nn
  dc : t.dc = s.dc
  up : t.up = s.up
theorem SameM.rfl' (s : MS) : SameM s s := ⟨rfl, rfl, rfl, rfl, rfl, rfl⟩
theorem SameM.lay (s : MS) (r : Nat) (c : Ch) : SameM s (layS s r c).1 := ⟨rfl, rfl, rfl, rfl, rfl, rfl⟩
theorem SameM.trans {a b c : MS} (h : SameM a b) (k : SameM b c) : SameM a c := ⟨k.dcs.trans h.dcs, k.cl.trans h.cl, k.rn.trans h.rn, k.nn.trans h.nn, k.dc.trans h.dc, k.up.trans h.up⟩
theorem SameM.tick1 (s : MS) (r : Nat) : SameM s (tick1S s r).1 := by
  unfold tick1S
  split
  · exact ⟨rfl, rfl, rfl, rfl, rfl, rfl⟩
  · exact ⟨rfl, rfl, rfl, rfl, rfl, rfl⟩
theorem SameM.tickK (s : MS) : ∀ k, SameM s (tickK s k).1
  | 0 => SameM.rfl' s
  | k + 1 => (SameM.tickK s k).trans (SameM.tick1 _ _)
theorem lay_len {s : MS} {r : Nat} {c : Ch} : (layS s r c).2.length ≤ s.nn := by
  unfold layS
  simp only []
  split
  · rw [tells_len]; exact Nat.le_refl _
  · exact Nat.zero_le _
theorem fsome_ok {xs : List Int} {f : Int → Option Ch} {c : Ch} (h : xs.findSome? f = some c) : ∃ x ∈ xs, f x = some c := List.exists_of_findSome?_eq_some h
theorem fsome_at {xs : List Int} {f : Int → Option Ch} {j : Nat} {q : Int} {c : Ch} (hq : xs[j]? = some q) (hc : f q = some c) (hall : ∀ (i : Nat) (p : Int), i < j → xs[i]? = some p → f p = none) : xs.findSome? f = some c := by
  obtain ⟨h1, h2⟩ := List.getElem?_eq_some_iff.1 hq
  have e : xs = xs.take j ++ q :: xs.drop (j + 1) := by rw [← h2, ← List.drop_eq_getElem_cons h1, List.take_append_drop]
  have hn : (xs.take j).findSome? f = none := by
    rw [List.findSome?_eq_none_iff]
    intro x hx
    obtain ⟨i, hi⟩ := List.mem_iff_getElem?.1 hx
    have hlt := (List.getElem?_eq_some_iff.1 hi).1
    rw [List.length_take] at hlt
    rw [List.getElem?_take, if_pos (by omega)] at hi
    exact hall i x (by omega) hi
  rw [e, List.findSome?_append, hn]
  simp [hc]
theorem fsome_none {xs : List Int} {f : Int → Option Ch} (hall : ∀ (i : Nat) (p : Int), i < xs.length → xs[i]? = some p → f p = none) : xs.findSome? f = none := by
  rw [List.findSome?_eq_none_iff]
  intro x hx
  obtain ⟨i, hi⟩ := List.mem_iff_getElem?.1 hx
  exact hall i x (List.getElem?_eq_some_iff.1 hi).1 hi
theorem MsOk.tick1 {s : MS} (ok : MsOk s) {r : Nat} (hr : r < s.rn) : MsOk (tick1S s r).1 := by
  unfold tick1S
  split
  · rename_i c hc
    obtain ⟨x, _, hx⟩ := fsome_ok hc
    exact (ok.tick r).lay hr ((ok.ch r hr).dropL hx)
  · exact ok.tick r
theorem MsOk.tickK {s : MS} (ok : MsOk s) : ∀ k, k ≤ s.rn → MsOk (tickK s k).1
  | 0, _ => ok
  | k + 1, h => (MsOk.tickK ok k (by omega)).tick1 (by rw [(SameM.tickK s k).rn]; omega)
theorem tick1_len {s : MS} {r : Nat} : (tick1S s r).2.length ≤ s.nn := by
  unfold tick1S
  split
  · exact lay_len
  · exact Nat.zero_le _
theorem tickK_len {s : MS} : ∀ k, (tickK s k).2.length ≤ s.nn * k
  | 0 => Nat.zero_le _
  | k + 1 => by
    have h1 := tickK_len (s := s) k
    have h2 := tick1_len (s := (tickK s k).1) (r := k)
    rw [(SameM.tickK s k).nn] at h2
    show ((tickK s k).2 ++ (tick1S (tickK s k).1 k).2).length ≤ _
    rw [List.length_append, Nat.mul_succ]; omega

theorem mtickDn_ct {s : MS} {b : Nat} {h : Hp} (hm : IsMs s b h) (hup : s.up = false) :
    Ct Try.prog 7 [.pointer (some ⟨b, 0, none⟩)] [h] (MsPost (tickS s) b) := by
  have hm0 := id hm
  rw [show tickS s = (s, []) by unfold tickS; rw [if_neg (by rw [hup]; decide)]]
  rcases hm with ⟨hu, _⟩ | ⟨_, d, hd, rfl, hdk⟩
  · rw [hup] at hu; cases hu
  refine Ct.mk' Try.func7 rfl rfl rfl (fun g R => ?_)
  try simp only [List.cons_append]
  simp only [List.nil_append]
  refine W.flat (H' := [MtBk b (MtD s.dcs s.rn s.nn s.cl s.dc d), hd, R]) (by simp) ?_
  repeat' (first | refine go ?_ | refine mv ?_ | (refine I.ld ?_; refine ld rfl ?_) | refine asg ?_ | (refine I.fa ?_; refine fa ?_) | (refine I.nc ?_; refine nc ?_) | (refine I.cond ?_; refine cT ?_) | (refine I.un ?_; refine nt ?_) | fail)
  refine D.nilH ?_
  exact D.fin1 [MtBk b (MtD s.dcs s.rn s.nn s.cl s.dc d) ++ hd, []] _ rfl rfl ⟨_, [], rfl, hm0, IsSl.nil _⟩

set_option maxRecDepth 4000 in
set_option maxHeartbeats 1000000 in
theorem mtickUp_ct {s : MS} (ok : MsOk s) {b : Nat} {h : Hp} (hm : IsMs s b h) (hup : s.up = true) :
    Ct Try.prog 7 [.pointer (some ⟨b, 0, none⟩)] [h] (MsPost (tickS s) b) := by
  have r1 := ok.r1; have r3 := ok.r3; have n4 := ok.n4
  rcases hm with ⟨_, d, w, torn, bq, hd, hw, rfl, hdk, hw3⟩ | ⟨hu, _⟩
  rotate_left
  · rw [hup] at hu; cases hu
  refine MsPostL.pack ?_
  rw [show tickS s = tickK s s.rn by unfold tickS; rw [if_pos hup]]
  refine Ct.mk' Try.func7 rfl rfl rfl (fun g R => ?_)
  try simp only [List.cons_append]
  simp only [List.nil_append]
  repeat' (first | refine go ?_ | refine mv ?_ | (refine I.ld ?_; refine ld rfl ?_) | refine asg ?_ | (refine I.fa ?_; refine fa ?_) | (refine I.nc ?_; refine nc ?_) | (refine I.cond ?_; refine cF ?_) | (refine I.un ?_; refine nt ?_) | fail)
  refine W.nilH ?_
  refine W.hp (H' := [[], MtBk b ((tickK s 0).1.mu d w bq).mt, WBk w d (lastN (tickK s 0).1.lg) torn, hd, hw, R]) rfl ?_
  refine W.loop (α := Nat × Value × Hp × Hp × Hp) (fun x => x.1 ≤ s.rn ∧ IsSl 49 (tickK s x.1).2 x.2.1 x.2.2.1 ∧ IsDk (dk (tickK s x.1).1.lg) d x.2.2.2.1 ∧ W3 WTy bq (tickK s x.1).1.wt x.2.2.2.2)
    (fun x => [(0, .pointer (some ⟨b, 0, none⟩)), (3, x.2.1), (18, .int .i64 (s.rn : Int)), (19, .int .i64 (x.1 : Int))])
    (fun x => [x.2.2.1, MtBk b ((tickK s x.1).1.mu d w bq).mt, WBk w d (lastN (tickK s x.1).1.lg) torn, x.2.2.2.1, x.2.2.2.2, R]) (fun x => s.rn - x.1) (0, .slice none 0 0, [], hd, hw) ⟨Nat.zero_le _, IsSl.nil _, hdk, hw3⟩ (by repeat (first | exact Fsub.nil | refine Fsub.cons rfl ?_)) (Hsub.of_picks inferInstance) ?_
  rintro ⟨k, v, ho, hdd, hww⟩ ⟨hk, hs, hdk2, hw4⟩
  simp only [] at hk hs hdk2 hw4 ⊢
  have okk := MsOk.tickK ok k hk
  have sm := SameM.tickK s k
  have hol := tickK_len (s := s) k
  have hnk : s.nn * k ≤ 4 * 3 := Nat.mul_le_mul n4 (by omega)
  have hT : tickK s (k + 1) = ((tick1S (tickK s k).1 k).1, (tickK s k).2 ++ (tick1S (tickK s k).1 k).2) := rfl
  by_cases hlt : k < s.rn
  · have hkr : k < (tickK s k).1.rn := by rw [sm.rn]; exact hlt
    have hsn : (tickK s k).1.nn ≤ 4 := by rw [sm.nn]; exact n4
    have hsu : (tickK s k).1.up = true := by rw [sm.up]; exact hup
    generalize hs' : (tickK s k).1 = s' at *
    generalize ho' : (tickK s k).2 = out at *
    have hwk := okk.wk k
    have htl : tickL (s'.wt k) = updF s'.wt k (tickL (s'.wt k)) k := updF_same.symm
    have htlen : (tickL (s'.wt k)).length ≤ 64 := by unfold tickL; rw [List.length_map]; exact hwk.1
    repeat' (first | refine go ?_ | refine mv ?_ | refine asg ?_ | (refine I.fa ?_; refine fa ?_) | (refine I.nc ?_; refine nc ?_) | (refine I.bin ?_; refine cm rfl rfl ?_) | (refine I.cond ?_; refine cP ?_) | (refine I.ix ?_; refine iP ?_) | (refine I.ld ?_; refine lN (Mt.enc (s'.mu d w bq).mt) (.pointer (some ⟨bq k, 0, none⟩)) rfl ?_ (hc := Mt.wAtI (s'.mu d w bq) (by omega))) | fail)
    refine WX.call rfl (W3.ct1 hw4 (r := k) (by omega) (fun y hy => tick_ct hy hwk)) rfl ?_
    rintro _ _ ⟨rfl, hw', rfl, hw5⟩
    simp only [List.cons_append, List.nil_append]
    repeat' (first | refine go ?_ | refine mv ?_ | (refine I.fa ?_; refine fa ?_) | (refine I.nc ?_; refine nc ?_) | (refine I.ix ?_; refine iP ?_) | (refine I.ld ?_; refine lN (Mt.enc (s'.mu d w bq).mt) (.pointer (some ⟨bq k, 0, none⟩)) rfl ?_ (hc := Mt.wAtI (s'.mu d w bq) (by omega))) | fail)
    refine WX.call rfl (W3.ctN hw5 (r := k) (by omega) (fun y hy => silent_ct hy (by rw [← htl]; exact htlen) 4)) rfl ?_
    rintro vq _ ⟨hq, rfl, hsq⟩
    rw [← htl] at hsq
    have hrq := hsq.rs
    obtain ⟨qp, qc, rfl⟩ := hrq.len
    have hql : (silL (tickL (s'.wt k)) 4).length ≤ 64 := Nat.le_trans (silK_len _ _ _) htlen
    generalize hqs : silL (tickL (s'.wt k)) 4 = qs at *
    simp only [List.cons_append, List.nil_append]
    repeat' (first | refine go ?_ | refine mv ?_ | (refine I.bi ?_; refine ln rfl (by assumption) ?_) | fail)
    refine W.loop (α := Nat) (fun j => j ≤ qs.length ∧ ∀ (i : Nat) (p : Int), i < j → qs[i]? = some p → dropL (s'.ch k) p = none)
      (fun j => [(0, .pointer (some ⟨b, 0, none⟩)), (3, v), (4, .int .i64 (k : Int)), (18, .int .i64 (s.rn : Int)), (19, .int .i64 (k : Int)), (35, .slice qp qs.length qc), (36, .int .i64 (qs.length : Int)), (37, .int .i64 (j : Int))])
      (fun _ => [hq, hw', ho, MtBk b (s'.mu d w bq).mt, WBk w d (lastN s'.lg) torn, hdd, R]) (fun j => qs.length - j) 0 ⟨Nat.zero_le _, fun i p hi => absurd hi (Nat.not_lt_zero _)⟩ (by repeat (first | exact Fsub.nil | refine Fsub.cons rfl ?_)) (Hsub.of_picks inferInstance) ?_
    rintro j ⟨hj, hall⟩
    by_cases hjl : j < qs.length
    · obtain ⟨q, hqj⟩ : ∃ q, qs[j]? = some q := ⟨_, List.getElem?_eq_getElem hjl⟩
      have hdc := drop_ct (okk.ch k hkr) q
      repeat' (first | refine go ?_ | refine mv ?_ | (refine I.ld ?_; refine lE rfl (by assumption) ?_) | refine asg ?_ | (refine I.fa ?_; refine fa ?_) | (refine I.nc ?_; refine nc ?_) | (refine I.bin ?_; refine cm rfl rfl ?_) | (refine I.cond ?_; refine cP ?_) | (refine I.ix ?_; first | refine ix rfl rfl ?_ | refine iP ?_) | refine ex ?_ | refine al (fun _ => ?_) | (refine I.ld ?_; refine lAN (Mt.enc (s'.mu d w bq).mt) (s'.ch k).cfg.enc rfl ?_ (hc := okk.cfg hkr)) | (refine I.cl ?_; refine WX.callQ rfl hdc rfl ?_) | fail)
      cases hdl : dropL (s'.ch k) q with
      | none =>
        repeat' (first | refine go ?_ | refine mv ?_ | refine asg ?_ | (refine I.bin ?_; refine ad ?_) | (refine I.cond ?_; refine cF ?_) | (refine I.st ?_; refine sGW Cfg.z.enc Cfg.z.enc rfl rfl ?_) | fail)
        refine D.round (j + 1) ⟨by omega, fun i p hi hp => ?_⟩ (by omega) (by repeat (first | exact Fsub.nil | refine Fsub.cons rfl ?_)) (Hsub.of_picks inferInstance)
        rcases Nat.lt_or_ge i j with h | h
        · exact hall i p h hp
        · obtain rfl : i = j := by omega
          rw [hqj] at hp
          cases hp
          exact hdl
      | some c =>
        have hc := (okk.ch k hkr).dropL hdl
        have h1 : tick1S s' k = layS (s'.tick k) k c := by unfold tick1S; rw [hqs, fsome_at hqj hdl hall]
        have hlay := layS_ct (okk.tick k) b d w bq hdk2 (torn := torn) hkr hc
        change Ct _ _ _ [MtBk b (s'.mu d w bq).mt, WBk w d (lastN s'.lg) torn, hdd] _ at hlay
        rw [h1] at hT
        have e1 : (layS (s'.tick k) k c).1 = (tickK s (k + 1)).1 := by rw [hT]
        have e2 : (tickK s (k + 1)).2 = out ++ (layS (s'.tick k) k c).2 := by rw [hT]
        have hll := lay_len (s := s'.tick k) (r := k) (c := c)
        have hll : (layS (s'.tick k) k c).2.length ≤ 4 := Nat.le_trans hll hsn
        repeat' (first | refine go ?_ | refine mv ?_ | refine asg ?_ | (refine I.cond ?_; refine cT ?_) | (refine I.st ?_; refine sGW Cfg.z.enc c.cfg.enc rfl rfl ?_) | (refine I.ld ?_; refine lAN c.cfg.enc c.cfg.enc rfl ?_) | fail)
        refine WX.call rfl hlay rfl ?_
        rintro v6 _ ⟨h', ho6, rfl, hdk', hs6⟩
        simp only [List.cons_append, List.nil_append]
        refine WX.app rfl rfl hs hs6.rs rfl rfl (by decide) (by omega) rfl (fun v7 h7 hs7 => ?_)
        rw [← e2] at hs7
        rw [e1] at hdk' ⊢
        have hw6 : W3 WTy bq (tickK s (k + 1)).1.wt hw' := by rw [← e1]; exact hw5
        repeat' (first | refine go ?_ | refine mv ?_ | refine asg ?_ | (refine I.bin ?_; refine ad ?_) | refine zY ?_ | fail)
        exact D.round (k + 1, v7, h7, h', hw') ⟨by simp only []; omega, hs7, hdk', hw6⟩ (by simp only []; omega) (by repeat (first | exact Fsub.nil | refine Fsub.cons rfl ?_)) (Hsub.of_picks inferInstance)
    · obtain rfl : j = qs.length := by omega
      have h1 : tick1S s' k = (s'.tick k, []) := by unfold tick1S; rw [hqs, fsome_none hall]
      rw [h1] at hT
      have e1 : (tickK s (k + 1)).1 = s'.tick k := by rw [hT]
      have e2 : (tickK s (k + 1)).2 = out := by rw [hT]; exact List.append_nil _
      rw [show s'.mu d w bq = (tickK s (k + 1)).1.mu d w bq by rw [e1]; rfl, show lastN s'.lg = lastN (tickK s (k + 1)).1.lg by rw [e1]; rfl]
      repeat' (first | refine go ?_ | refine mv ?_ | (refine I.bin ?_; first | refine cm rfl rfl ?_ | refine ad ?_) | (refine I.cond ?_; refine cN ?_) | fail)
      exact D.round (k + 1, v, ho, hdd, hw') ⟨by simp only []; omega, by rw [e2]; exact hs, by rw [e1]; exact hdk2, by rw [e1]; exact hw5⟩ (by simp only []; omega) (by repeat (first | exact Fsub.nil | refine Fsub.cons rfl ?_)) (Hsub.of_picks inferInstance)
  · obtain rfl : k = s.rn := by omega
    repeat' (first | refine go ?_ | refine mv ?_ | refine asg ?_ | (refine I.bin ?_; refine cm rfl rfl ?_) | (refine I.cond ?_; refine cN ?_) | fail)
    exact D.fin1 [MtBk b ((tickK s s.rn).1.mu d w bq).mt, WBk w d (lastN (tickK s s.rn).1.lg) torn, hdd, hww, ho] _ rfl rfl ⟨d, w, torn, bq, hdd, hww, ho, by rw [sm.up]; exact hup, rfl, hdk2, hw4, hs⟩
theorem mtick_ct {s : MS} (ok : MsOk s) {b : Nat} {h : Hp} (hm : IsMs s b h) :
    Ct Try.prog 7 [.pointer (some ⟨b, 0, none⟩)] [h] (MsPost (tickS s) b) := by
  cases hup : s.up with
  | false => exact mtickDn_ct hm hup
  | true => exact mtickUp_ct ok hm hup
end Go.Proofs.Ytfcefidmdijjkaa

/-
  master: New; Crash and Start by states; turned.
-/
set_option linter.unusedVariables false
set_option linter.unusedSimpArgs false
namespace Go.Proofs.Ytfcefidmdijjkaa
open Go Go.Sl

def crashS (s : MS) : MS := ⟨s.dcs, s.cl, s.rn, s.nn, s.dc, false, s.lg, s.ch, s.wt⟩
def startS (s : MS) : MS := if s.up = true then s else ⟨s.dcs, s.cl, s.rn, s.nn, s.dc, true, s.lg, s.ch, fun _ => List.replicate s.nn 0⟩
theorem wok_zeros {n : Nat} (h : n ≤ 64) : Wok (List.replicate n (0 : Int)) := ⟨by rw [List.length_replicate]; exact h, fun x hx => by rw [List.eq_of_mem_replicate hx]; omega⟩
theorem MsOk.crash {s : MS} (ok : MsOk s) : MsOk (crashS s) := ⟨ok.r1, ok.r3, ok.n1, ok.n4, ok.lg, ok.ch, ok.rep, ok.base, ok.wl, ok.wk⟩
theorem MsOk.start {s : MS} (ok : MsOk s) : MsOk (startS s) := by
  unfold startS
  split
  · exact ok
  · exact ⟨ok.r1, ok.r3, ok.n1, ok.n4, ok.lg, ok.ch, ok.rep, ok.base, fun _ => List.length_replicate .., fun _ => wok_zeros (by have := ok.n4; omega)⟩
theorem mcrashS_ct {s : MS} {b : Nat} {h : Hp} (hm : IsMs s b h) :
    Ct Try.prog 9 [.pointer (some ⟨b, 0, none⟩)] [h] (fun v H' => v = .tuple #[] ∧ ∃ h', H' = [h'] ∧ IsMs (crashS s) b h') := by
  rcases hm with ⟨hup, d, w, torn, bq, hd, hw, rfl, hdk, hw3⟩ | ⟨hup, d, hd, rfl, hdk⟩
  · refine Ct.packP ((mcrash_ct b (s.mu d w bq)).frame (F := [WBk w d (lastN s.lg) torn, hd, hw]) (post' := fun v H' => v = .tuple #[] ∧ H' = [MtBk b (MtD s.dcs s.rn s.nn s.cl s.dc d), WBk w d (lastN s.lg) torn, hd, hw]) (fun v H' ⟨h1, h2⟩ => ⟨h1, by rw [h2]; rfl⟩)) (by simp) fun v H' ⟨h1, h2⟩ => ?_
    subst h2
    refine ⟨[MtBk b (MtD s.dcs s.rn s.nn s.cl s.dc d) ++ hd], WBk w d (lastN s.lg) torn ++ hw, ?_, h1, _, rfl, .inr ⟨rfl, d, hd, rfl, hdk⟩⟩
    simp only [List.cons_append, List.nil_append, List.flatten_cons, List.flatten_nil, List.append_nil]
    refine List.Perm.cons _ ?_
    exact List.perm_middle
  · refine Ct.packP ((crashDn_ct b s.dcs s.rn s.nn s.cl s.dc d).frame (F := [hd]) (post' := fun v H' => v = .tuple #[] ∧ H' = [MtBk b (MtD s.dcs s.rn s.nn s.cl s.dc d), hd]) (fun v H' ⟨h1, h2⟩ => ⟨h1, by rw [h2]; rfl⟩)) (by simp) fun v H' ⟨h1, h2⟩ => ?_
    subst h2
    exact ⟨[MtBk b (MtD s.dcs s.rn s.nn s.cl s.dc d) ++ hd], [], by simp, h1, _, rfl, .inr ⟨rfl, d, hd, rfl, hdk⟩⟩
theorem newN_nat {n : Nat} (h : n ≤ 64) : newN (n : Int) = n := by unfold newN; split <;> (try split) <;> omega
theorem mstartS_ct {s : MS} (ok : MsOk s) {b : Nat} {h : Hp} (hm : IsMs s b h) :
    Ct Try.prog 10 [.pointer (some ⟨b, 0, none⟩)] [h] (fun v H' => v = .tuple #[] ∧ ∃ h', H' = [h'] ∧ IsMs (startS s) b h') := by
  have hm0 := id hm
  rcases hm with ⟨hup, d, w, torn, bq, hd, hw, rfl, hdk, hw3⟩ | ⟨hup, d, hd, rfl, hdk⟩
  · have e : startS s = s := by unfold startS; rw [if_pos hup]
    rw [e]
    exact ((startUp_ct b (s.mu d w bq)).ext (r := WBk w d (lastN s.lg) torn ++ (hd ++ hw))).mono fun v H' ⟨h1, h2⟩ => ⟨h1, _, h2, hm0⟩
  · have h3 := ok.r3
    have e : startS s = ⟨s.dcs, s.cl, s.rn, s.nn, s.dc, true, s.lg, s.ch, fun _ => List.replicate s.nn 0⟩ := by unfold startS; rw [if_neg (by rw [hup]; decide)]
    rw [e]
    refine Ct.pack (mstart_ct b s.dcs s.rn s.nn s.cl s.dc ok.lg hdk (fun x hx => by have := ok.base x hx; omega)) (by simp) fun v H' ⟨w, bq, h', hw, h1, h2, h3, h4⟩ => ?_
    subst h2
    rw [newN_nat (by have := ok.n4; omega)] at h4
    exact ⟨[MtBk b _ ++ (WBk w d (lastN s.lg) 0 ++ (h' ++ hw))], by simp, h1, _, rfl, .inl ⟨rfl, d, w, 0, bq, h', hw, rfl, h3, h4⟩⟩

/-- The log of a new master. -/
def newL (nn : Nat) : Nat → List Lf
  | 0 => []
  | k + 1 => layL (newL nn k) k (firstCh nn).cfg
theorem newL_ok {nn : Nat} (h1 : 1 ≤ nn) (h4 : nn ≤ 4) : ∀ k, k ≤ 3 → MLog (newL nn k) ∧ recs (newL nn k) = (List.range k).map fun (i : Nat) => recE i (firstCh nn).cfg
  | 0, _ => ⟨MLog.nil, rfl⟩
  | k + 1, hk => by
    obtain ⟨g1, g2⟩ := newL_ok h1 h4 k (by omega)
    obtain ⟨_, g4, g5⟩ := lay_log g1 (r := k) (by omega) (Ch.cfgN (first_ok h1 h4)) (room_few g1 (by rw [g2, List.length_map, List.length_range]; omega))
    exact ⟨g4, by show recs (layL (newL nn k) k (firstCh nn).cfg) = _; rw [g5, g2, List.range_succ, List.map_append]; rfl⟩
theorem newL_room {nn : Nat} (h1 : 1 ≤ nn) (h4 : nn ≤ 4) {k : Nat} (hk : k ≤ 3) : roomB (newL nn k) 1 = true :=
  room_few (newL_ok h1 h4 k hk).1 (by rw [(newL_ok h1 h4 k hk).2, List.length_map, List.length_range]; omega)
theorem rep_layL {l : List Lf} (L : MLog l) {r : Nat} (hr : r ≤ 1000) {c : Cfg} (hc : CfgN c) (hrm : roomB l 1 = true) : rep (recs (layL l r c)) = updF (rep (recs l)) r c := by
  obtain ⟨_, _, g5⟩ := lay_log L hr hc hrm
  rw [g5]
  funext i
  rw [rep_lay]
  rfl
theorem rep_newL {nn : Nat} (h1 : 1 ≤ nn) (h4 : nn ≤ 4) {k : Nat} (hk : k ≤ 3) {r : Nat} (hr : r < k) : rep (recs (newL nn k)) r = (firstCh nn).cfg := by
  induction k with
  | zero => omega
  | succ k ih =>
    show rep (recs (layL (newL nn k) k (firstCh nn).cfg)) r = _
    rw [rep_layL (newL_ok h1 h4 k (by omega)).1 (by omega) (Ch.cfgN (first_ok h1 h4)) (newL_room h1 h4 (by omega))]
    unfold updF
    split
    · rfl
    · exact ih (by omega) (by omega)
def newS (dcs : Int) (rn nn : Nat) (cl dc : Int) : MS := ⟨dcs, cl, rn, nn, dc, true, newL nn rn, fun _ => firstCh nn, fun _ => List.replicate nn 0⟩
theorem newS_ok {dcs : Int} {rn nn : Nat} {cl dc : Int} (r1 : 1 ≤ rn) (r3 : rn ≤ 3) (n1 : 1 ≤ nn) (n4 : nn ≤ 4) : MsOk (newS dcs rn nn cl dc) := by
  obtain ⟨g1, g2⟩ := newL_ok n1 n4 rn r3
  refine ⟨r1, r3, n1, n4, g1, fun _ _ => first_ok n1 n4, fun r hr => rep_newL n1 n4 r3 hr, fun x hx => ?_, fun _ => List.length_replicate .., fun _ => wok_zeros (by omega)⟩
  have hx : x ∈ recs (newL nn rn) := hx
  rw [g2] at hx
  obtain ⟨i, hi, rfl⟩ := List.mem_map.1 hx
  have := List.mem_range.1 hi
  show (0 : Int) ≤ (i : Int) ∧ (i : Int) < (rn : Int)
  omega

structure OkL (a b c e dc : Int) : Prop where
  h1 : 1 ≤ a ∧ a ≤ 3
  h2 : 1 ≤ b ∧ b ≤ 3
  h3 : 1 ≤ c ∧ c ≤ 4
  h4 : 1 ≤ e ∧ e ≤ 4
  h5 : 0 ≤ dc ∧ dc ≤ a - 1
def LayV (a b c e : Int) : List Value := [.int .i64 a, .int .i64 b, .int .i64 c, .int .i64 e]
theorem mnewBad_ct {a b c e dc : Int} (ha : I64 a) (hbad : ¬ OkL a b c e dc) :
    Ct Try.prog 6 [.agg (List.toArray (LayV a b c e)), .int .i64 dc] [] (fun v H' => v = .tuple (List.toArray [.pointer none, .int .i64 1]) ∧ H' = []) := by
  have hbad : ¬ ((1 ≤ a ∧ a ≤ 3) ∧ (1 ≤ b ∧ b ≤ 3) ∧ (1 ≤ c ∧ c ≤ 4) ∧ (1 ≤ e ∧ e ≤ 4) ∧ (0 ≤ dc ∧ dc ≤ a - 1)) := fun ⟨h1, h2, h3, h4, h5⟩ => hbad ⟨h1, h2, h3, h4, h5⟩
  have hba := between_ct a 1 3
  have hbb := between_ct b 1 3
  have hbc := between_ct c 1 4
  have hbe := between_ct e 1 4
  have hbd := between_ct dc 0 (a - 1)
  obtain ⟨i1, i2⟩ := ha
  refine Ct.mk' Try.func6 rfl rfl rfl (fun g R => ?_)
  try simp only [List.cons_append]
  simp only [List.nil_append]
  unfold LayV
  repeat' (first | refine go ?_ | refine mv ?_ | (refine I.ld ?_; refine ld rfl ?_) | refine asg ?_ | (refine I.gd ?_; first | refine gy ?_ | refine gn ?_ | refine gS (fun _ => ?_) (fun _ => ?_)) | (refine I.fa ?_; refine fa ?_) | (refine I.bin ?_; refine su ?_) | (refine I.pk ?_; first | refine pT ?_ | refine pF ?_) | (refine I.cond ?_; first | refine cT ?_ | refine cP ?_) | (refine I.un ?_; first | refine nD ?_ | refine nt ?_) | refine bx rfl (fun _ => ?_) | (refine I.cl ?_; first | refine WX.callQ rfl hba rfl ?_ | refine WX.callQ rfl hbb rfl ?_ | refine WX.callQ rfl hbc rfl ?_ | refine WX.callQ rfl hbe rfl ?_ | refine WX.callQ rfl hbd rfl ?_) | fail)
  all_goals first | exact D.fin2 [] _ rfl rfl rfl ⟨rfl, rfl⟩ | skip
set_option maxRecDepth 4000 in
theorem mnewOk_ct {a e dc : Int} {rn nn : Nat} (hok : OkL a rn nn e dc) :
    Ct Try.prog 6 [.agg (List.toArray (LayV a rn nn e)), .int .i64 dc] [] (fun v H' => ∃ b h', v = .tuple (List.toArray [.pointer (some ⟨b, 0, none⟩), .int .i64 0]) ∧ H' = [h'] ∧ IsMs (newS a rn nn e dc) b h') := by
  obtain ⟨ha, hb, hc, he, hdc⟩ := hok
  have n1 : 1 ≤ nn := by omega
  have n4 : nn ≤ 4 := by omega
  have hba := between_ct a 1 3
  have hbb := between_ct (rn : Int) 1 3
  have hbc := between_ct (nn : Int) 1 4
  have hbe := between_ct e 1 4
  have hbd := between_ct dc 0 (a - 1)
  have hfc := first_ct n1 n4
  refine Ct.pack (pre := []) (post := fun v H' => ∃ b d w bq hd hw, v = .tuple (List.toArray [.pointer (some ⟨b, 0, none⟩), .int .i64 0]) ∧ H' = [MtBk b ((newS a rn nn e dc).mu d w bq).mt, WBk w d (lastN (newL nn rn)) 0, hd, hw] ∧ IsDk (dk (newL nn rn)) d hd ∧ W3 WTy bq (fun _ => List.replicate nn 0) hw) ?_ rfl ?_
  rotate_left
  · rintro v H' ⟨b, d, w, bq, hd, hw, h1, rfl, h3, h4⟩
    exact ⟨[MtBk b ((newS a rn nn e dc).mu d w bq).mt ++ (WBk w d (lastN (newL nn rn)) 0 ++ (hd ++ hw))], by simp, b, _, h1, rfl, .inl ⟨rfl, d, w, 0, bq, hd, hw, rfl, h3, h4⟩⟩
  refine Ct.mk' Try.func6 rfl rfl rfl (fun g R => ?_)
  try simp only [List.cons_append]
  simp only [List.nil_append]
  unfold LayV
  repeat' (first | refine go ?_ | refine mv ?_ | (refine I.ld ?_; refine ld rfl ?_) | refine asg ?_ | (refine I.gd ?_; first | refine gy ?_ | refine gT ?_ | refine gF ?_) | (refine I.fa ?_; refine fa ?_) | (refine I.bin ?_; refine su ?_) | (refine I.pk ?_; first | refine pT ?_ | refine pF ?_) | (refine I.cond ?_; refine cN ?_) | (refine I.un ?_; refine nD ?_) | refine bx rfl (fun _ => ?_) | (refine I.cl ?_; first | refine WX.callQ rfl hba rfl ?_ | refine WX.callQ rfl hbb rfl ?_ | refine WX.callQ rfl hbc rfl ?_ | refine WX.callQ rfl hbe rfl ?_ | refine WX.callQ rfl hbd rfl ?_) | fail)
  rename_i b2
  refine W.mixN 8 [true, true, false] [[(b2, .cells (List.toArray [.int .i64 a, .int .i64 rn, .int .i64 nn, .int .i64 e]) 23 (0, 0))]] Try.mix (by kernel_rfl) ?_
  repeat' (first | refine go ?_ | refine mv ?_ | refine mU ?_ | refine mA ?_ | (refine I.ld ?_; refine lAN [.int .i64 a, .int .i64 rn, .int .i64 nn, .int .i64 e] [.int .i64 a, .int .i64 rn, .int .i64 nn, .int .i64 e] rfl ?_) | fail)
  refine WX.call rfl dnew_ct rfl ?_
  rintro _ _ ⟨d, h0, rfl, rfl, hd0⟩
  have hd0 : IsDk (dk []) d h0 := hd0
  simp only [List.cons_append, List.nil_append]
  repeat' (first | refine go ?_ | refine mv ?_ | refine asg ?_ | refine mN ?_ | refine bx rfl (fun _ => ?_) | (refine I.bd ?_; refine bdN (Mt.enc (MtD a rn nn e dc d)) ?_) | fail)
  rename_i b
  refine WX.call rfl (mstart_ct b a (rn : Int) (nn : Int) e dc MLog.nil hd0 (fun x hx => by simp [recs] at hx)) rfl ?_
  rintro _ _ ⟨w, bq, h1, hw, rfl, rfl, hd1, hw3⟩
  rw [newN_nat (by omega)] at hw3
  simp only [List.cons_append, List.nil_append]
  repeat' (first | refine go ?_ | refine mv ?_ | (refine I.ld ?_; refine ld rfl ?_) | (refine I.fa ?_; refine fa ?_) | fail)
  refine W.hp (H' := [MtBk b (Mu.mt ⟨a, rn, nn, e, dc, d, w, rep (recs (newL nn 0)), bq⟩), WBk w d (lastN (newL nn 0)) 0, h1, hw, [(b2, .cells (List.toArray [.int .i64 a, .int .i64 rn, .int .i64 nn, .int .i64 e]) 23 (0, 0))], R]) rfl ?_
  refine W.loop (α := Nat × Hp) (fun x => x.1 ≤ rn ∧ IsDk (dk (newL nn x.1)) d x.2) (fun x => [(2, .pointer (some ⟨b2, 0, none⟩)), (7, .pointer (some ⟨b, 0, none⟩)), (47, .int .i64 (rn : Int)), (48, .int .i64 (x.1 : Int))])
    (fun x => [MtBk b (Mu.mt ⟨a, rn, nn, e, dc, d, w, rep (recs (newL nn x.1)), bq⟩), WBk w d (lastN (newL nn x.1)) 0, x.2, hw, [(b2, .cells (List.toArray [.int .i64 a, .int .i64 rn, .int .i64 nn, .int .i64 e]) 23 (0, 0))], R]) (fun x => rn - x.1) (0, h1) ⟨Nat.zero_le _, hd1⟩ (by repeat (first | exact Fsub.nil | refine Fsub.cons rfl ?_)) (Hsub.of_picks inferInstance) ?_
  rintro ⟨k, hd⟩ ⟨hk, hdk⟩
  simp only [] at hk hdk ⊢
  by_cases hlt : k < rn
  · obtain ⟨g1, g2⟩ := newL_ok n1 n4 k (by omega)
    have hrm := newL_room n1 n4 (show k ≤ 3 by omega)
    have hlay := lay_ct b (⟨a, rn, nn, e, dc, d, w, rep (recs (newL nn k)), bq⟩ : Mu) (nn := nn) rfl n4 g1 hdk (torn := 0) (r := k) (by omega) (Ch.cfgN (first_ok n1 n4))
    have hlr : layR (newL nn k) (rep (recs (newL nn k))) dc nn k (firstCh nn).cfg = ⟨newL nn (k + 1), rep (recs (newL nn (k + 1))), tells dc k nn (firstCh nn).cfg⟩ := by
      unfold layR
      rw [if_pos hrm, ← rep_layL g1 (by omega) (Ch.cfgN (first_ok n1 n4)) hrm]
      rfl
    simp only [hlr, Mu.cs] at hlay
    repeat' (first | refine go ?_ | refine mv ?_ | (refine I.ld ?_; refine ld rfl ?_) | refine asg ?_ | (refine I.fa ?_; refine fa ?_) | (refine I.bin ?_; refine cm rfl rfl ?_) | (refine I.cond ?_; refine cP ?_) | refine ex ?_ | refine al (fun _ => ?_) | (refine I.cl ?_; refine WX.callQ rfl hfc rfl ?_) | (refine I.st ?_; refine sGW Cfg.z.enc (firstCh nn).cfg.enc rfl rfl ?_) | (refine I.ld ?_; refine lAN (firstCh nn).cfg.enc (firstCh nn).cfg.enc rfl ?_) | fail)
    refine WX.call rfl hlay rfl ?_
    rintro v _ ⟨h2, ho, rfl, hd2, hs2⟩
    simp only [List.cons_append, List.nil_append]
    repeat' (first | refine go ?_ | refine mv ?_ | (refine I.bin ?_; refine ad ?_) | fail)
    exact D.round (k + 1, h2) ⟨by simp only []; omega, hd2⟩ (by simp only []; omega) (by repeat (first | exact Fsub.nil | refine Fsub.cons rfl ?_)) (Hsub.of_picks inferInstance)
  · obtain rfl : k = rn := by omega
    repeat' (first | refine go ?_ | refine mv ?_ | refine asg ?_ | (refine I.bin ?_; refine cm rfl rfl ?_) | (refine I.cond ?_; refine cN ?_) | fail)
    refine D.hp (H' := [MtBk b ((newS a k nn e dc).mu d w bq).mt, WBk w d (lastN (newL nn k)) 0, hd, hw, [(b2, .cells (List.toArray [.int .i64 a, .int .i64 k, .int .i64 nn, .int .i64 e]) 23 (0, 0))], R]) rfl ?_
    exact D.fin2 [MtBk b ((newS a k nn e dc).mu d w bq).mt, WBk w d (lastN (newL nn k)) 0, hd, hw] _ rfl rfl rfl ⟨b, d, w, bq, hd, hw, rfl, rfl, hdk, hw3⟩
end Go.Proofs.Ytfcefidmdijjkaa

/-
  Messages and acts among the inputs.
-/
set_option linter.unusedVariables false
set_option linter.unusedSimpArgs false
namespace Go.Proofs.Ytfcefidmdijjkaa
open Go Go.Sl

section
variable {H : Type} {enc : TypeId × Value → H} {w : World} {t e : Nat} {ag : Bool} {cs : List Value}
theorem rd_col [TU Try.prog t (.array 3 e)] [TL Try.prog t 3 ag] [TL Try.prog e 1 false] [TU Try.prog e (.int .i64)] (h : StOk enc Try.prog w t cs) : ∃ a b c, cs = [.int .i64 a, .int .i64 b, .int .i64 c] := by
  have hl := h.lenA (k := 3)
  match cs, hl with
  | [c0, c1, c2], _ =>
    obtain ⟨n0, e0, _⟩ := (h.elem (k := 1) 0 (by decide)).int
    obtain ⟨n1, e1, _⟩ := (h.elem (k := 1) 1 (by decide)).int
    obtain ⟨n2, e2, _⟩ := (h.elem (k := 1) 2 (by decide)).int
    cases e0; cases e1; cases e2
    exact ⟨n0, n1, n2, rfl⟩
theorem rd_vec (h : StOk enc Try.prog w 44 cs) : ∃ v : V9, cs = v.enc := by
  have hl := h.lenA (k := 9)
  match cs, hl with
  | [c0, c1, c2, c3, c4, c5, c6, c7, c8], _ =>
    obtain ⟨a, b, c, e0⟩ := rd_col (h.elem (k := 3) 0 (by decide))
    obtain ⟨a', b', c', e1⟩ := rd_col (h.elem (k := 3) 1 (by decide))
    obtain ⟨a'', b'', c'', e2⟩ := rd_col (h.elem (k := 3) 2 (by decide))
    cases e0; cases e1; cases e2
    exact ⟨⟨a, b, c, a', b', c', a'', b'', c''⟩, rfl⟩
theorem rd_dot (h : StOk enc Try.prog w 39 cs) : ∃ a b c, cs = [.int .i64 a, .int .i64 b, .int .i64 c] := by
  have hl := h.len (i := 0)
  match cs, hl with
  | [c0, c1, c2], _ =>
    obtain ⟨n0, e0, _⟩ := (h.field 0).int
    obtain ⟨n1, e1, _⟩ := (h.field 1).int
    obtain ⟨n2, e2, _⟩ := (h.field 2).int
    cases e0; cases e1; cases e2
    exact ⟨n0, n1, n2, rfl⟩
theorem rd_stamp (h : StOk enc Try.prog w 41 cs) : ∃ a b c, cs = [.int .i64 a, .int .i64 b, .int .i64 c] := by
  have hl := h.len (i := 0)
  match cs, hl with
  | [c0, c1, c2], _ =>
    obtain ⟨n0, e0, _⟩ := (h.field 0).int
    obtain ⟨n1, e1, _⟩ := (h.field 1).int
    obtain ⟨n2, e2, _⟩ := (h.field 2).int
    cases e0; cases e1; cases e2
    exact ⟨n0, n1, n2, rfl⟩
theorem rd_mem (h : StOk enc Try.prog w 34 cs) : ∃ a b, cs = [.int .i64 a, .int .i64 b] := by
  have hl := h.len (i := 0)
  match cs, hl with
  | [c0, c1], _ =>
    obtain ⟨n0, e0, _⟩ := (h.field 0).int
    obtain ⟨n1, e1, _⟩ := (h.field 1).int
    cases e0; cases e1
    exact ⟨n0, n1, rfl⟩
theorem rd_ent (h : StOk enc Try.prog w 46 cs) : ∃ x : Ent, cs = x.enc ∧ x.key.data.toList.length ≤ reachBytes ∧ x.val.data.toList.length ≤ reachBytes := by
  have hl := h.len (i := 0)
  match cs, hl with
  | [c0, c1, c2, c3, c4, c5, c6, c7, c8, c9, c10, c11, c12, c13, c14, c15, c16, c17, c18, c19], _ =>
    have h0 : StOk enc Try.prog w 39 [c0, c1, c2] := h.field 0
    have h1 : StOk enc Try.prog w 41 [c3, c4, c5] := h.field 1
    obtain ⟨a, b, c, e0⟩ := rd_dot h0
    obtain ⟨a', b', c', e1⟩ := rd_stamp h1
    obtain ⟨key, e2, hk⟩ := (h.field 2).string
    obtain ⟨val, e3, hv⟩ := (h.field 3).string
    obtain ⟨dead, e4⟩ := (h.field 4).bool
    have h5 : StOk enc Try.prog w 44 [c9, c10, c11, c12, c13, c14, c15, c16, c17] := h.field 5
    obtain ⟨dp, e5⟩ := rd_vec h5
    obtain ⟨cl, e6, _⟩ := (h.field 6).int
    obtain ⟨op, e7, _⟩ := (h.field 7).int
    cases e0; cases e1; cases e2; cases e3; cases e4; cases e5; cases e6; cases e7
    exact ⟨⟨a, b, c, a', b', c', key, val, dead, dp, cl, op⟩, rfl, hk, hv⟩
theorem rd_fulls [TU Try.prog t (.array 4 34)] [TL Try.prog t 8 ag] (h : StOk enc Try.prog w t cs) : ∃ a b c d : Mem, cs = [.int .i64 a.nd, .int .i64 a.sn, .int .i64 b.nd, .int .i64 b.sn, .int .i64 c.nd, .int .i64 c.sn, .int .i64 d.nd, .int .i64 d.sn] := by
  have hl := h.lenA (k := 8)
  match cs, hl with
  | [c0, c1, c2, c3, c4, c5, c6, c7], _ =>
    obtain ⟨a, b, e0⟩ := rd_mem (h.elem (k := 2) 0 (by decide))
    obtain ⟨a', b', e1⟩ := rd_mem (h.elem (k := 2) 1 (by decide))
    obtain ⟨a'', b'', e2⟩ := rd_mem (h.elem (k := 2) 2 (by decide))
    obtain ⟨a3, b3, e3⟩ := rd_mem (h.elem (k := 2) 3 (by decide))
    cases e0; cases e1; cases e2; cases e3
    exact ⟨⟨a, b⟩, ⟨a', b'⟩, ⟨a'', b''⟩, ⟨a3, b3⟩, rfl⟩
theorem rd_cfg (h : StOk enc Try.prog w 37 cs) : ∃ x : Cfg, cs = x.enc := by
  have hl := h.len (i := 0)
  match cs, hl with
  | [c0, c1, c2, c3, c4, c5, c6, c7, c8, c9, c10, c11, c12], _ =>
    obtain ⟨ep, e0, _⟩ := (h.field 0).int
    obtain ⟨n, e1, _⟩ := (h.field 1).int
    obtain ⟨f0, f1, f2, f3, e2⟩ := rd_fulls (h.field 2)
    obtain ⟨jo, e3⟩ := (h.field 3).bool
    have h4 : StOk enc Try.prog w 34 [c11, c12] := h.field 4
    obtain ⟨a, b, e4⟩ := rd_mem h4
    cases e0; cases e1; cases e2; cases e3; cases e4
    exact ⟨⟨ep, n, f0, f1, f2, f3, jo, ⟨a, b⟩⟩, rfl⟩
end
theorem cut_at {α : Type} (cs : List α) (a b : Nat) : cs.drop a = (cs.drop a).take b ++ cs.drop (a + b) := by rw [← List.drop_drop, List.take_append_drop]
set_option maxRecDepth 100000 in
theorem rd_rec : RdOk Try.prog 80 Rec (fun _ r => r.size ≤ 562949953421312) := rd_of fun H enc w cs h => by
  have hl : cs.length = 35 := h.len (i := 0)
  have h1 : StOk enc Try.prog w 46 ((cs.drop 1).take 20) := h.field 1
  have h2 : StOk enc Try.prog w 37 ((cs.drop 21).take 13) := h.field 2
  obtain ⟨k, e0, _⟩ := (h.field 0).int
  obtain ⟨e, e1, hk, hv⟩ := rd_ent h1
  obtain ⟨c, e2⟩ := rd_cfg h2
  obtain ⟨b, e3, _⟩ := (h.field 3).int
  have e0 : (cs.drop 0).take 1 = [.int .i64 k] := e0
  have e3 : (cs.drop 34).take 1 = [.int .i64 b] := e3
  refine ⟨⟨k, e, c, b⟩, ?_, ?_⟩
  · have a0 := cut_at cs 0 1
    have a1 := cut_at cs 1 20
    have a2 := cut_at cs 21 13
    have a3 := cut_at cs 34 1
    rw [List.drop_zero] at a0 e0
    rw [e0] at a0
    rw [e1] at a1
    rw [e2] at a2
    rw [e3, show cs.drop (34 + 1) = [] from List.drop_eq_nil_of_le (by omega), List.append_nil] at a3
    rw [a0, show 0 + 1 = 1 from rfl, a1, show 1 + 20 = 21 from rfl, a2, show 21 + 13 = 34 from rfl, a3]
    rfl
  · unfold Rec.size
    simp only []
    unfold reachBytes at hk hv
    omega
section
variable {H : Type} {enc : TypeId × Value → H} {w : World} {cs : List Value}
theorem rd_ad4 (h : StOk enc Try.prog w 32 cs) : ∃ a : Ad4, cs = a.enc := by
  have hl := h.len (i := 0)
  match cs, hl with
  | [c0, c1, c2, c3], _ =>
    obtain ⟨n0, e0, _⟩ := (h.field 0).int
    obtain ⟨n1, e1, _⟩ := (h.field 1).int
    obtain ⟨n2, e2, _⟩ := (h.field 2).int
    obtain ⟨n3, e3, _⟩ := (h.field 3).int
    cases e0; cases e1; cases e2; cases e3
    exact ⟨⟨n0, n1, n2, n3⟩, rfl⟩
theorem rd_col3 (h : StOk enc Try.prog w 47 cs) : ∃ a b c, cs = [.int .i64 a, .int .i64 b, .int .i64 c] := rd_col h
set_option maxRecDepth 100000 in
theorem rd_msg (h : StOk enc Try.prog w 49 cs) : ∃ m : Msg, cs = m.enc := by
  have hl : cs.length = 74 := h.len (i := 0)
  obtain ⟨kind, e0, _⟩ := (h.field 0).int
  have h1 : StOk enc Try.prog w 32 ((cs.drop 1).take 4) := h.field 1
  obtain ⟨fr, e1⟩ := rd_ad4 h1
  have h2 : StOk enc Try.prog w 32 ((cs.drop 5).take 4) := h.field 2
  obtain ⟨to, e2⟩ := rd_ad4 h2
  obtain ⟨ep, e3, _⟩ := (h.field 3).int
  obtain ⟨ix, e4, _⟩ := (h.field 4).int
  obtain ⟨ct, e5, _⟩ := (h.field 5).int
  obtain ⟨op, e6, _⟩ := (h.field 6).int
  obtain ⟨tr, e7, _⟩ := (h.field 7).int
  have h8 : StOk enc Try.prog w 37 ((cs.drop 14).take 13) := h.field 8
  obtain ⟨cf, e8⟩ := rd_cfg h8
  have h9 : StOk enc Try.prog w 46 ((cs.drop 27).take 20) := h.field 9
  obtain ⟨en, e9, _⟩ := rd_ent h9
  obtain ⟨has, e10⟩ := (h.field 10).bool
  obtain ⟨key, e11, _⟩ := (h.field 11).string
  obtain ⟨val, e12, _⟩ := (h.field 12).string
  obtain ⟨dead, e13⟩ := (h.field 13).bool
  obtain ⟨snap, e14⟩ := (h.field 14).bool
  have h15 : StOk enc Try.prog w 44 ((cs.drop 52).take 9) := h.field 15
  obtain ⟨dp, e15⟩ := rd_vec h15
  have h16 : StOk enc Try.prog w 44 ((cs.drop 61).take 9) := h.field 16
  obtain ⟨av, e16⟩ := rd_vec h16
  have h17 : StOk enc Try.prog w 47 ((cs.drop 70).take 3) := h.field 17
  obtain ⟨c0, c1, c2, e17⟩ := rd_col3 h17
  obtain ⟨code, e18, _⟩ := (h.field 18).int
  have e0 : (cs.drop 0).take 1 = [.int .i64 kind] := e0
  have e3 : (cs.drop 9).take 1 = [.int .i64 ep] := e3
  have e4 : (cs.drop 10).take 1 = [.int .i64 ix] := e4
  have e5 : (cs.drop 11).take 1 = [.int .i64 ct] := e5
  have e6 : (cs.drop 12).take 1 = [.int .i64 op] := e6
  have e7 : (cs.drop 13).take 1 = [.int .i64 tr] := e7
  have e10 : (cs.drop 47).take 1 = [.bool has] := e10
  have e11 : (cs.drop 48).take 1 = [.string key] := e11
  have e12 : (cs.drop 49).take 1 = [.string val] := e12
  have e13 : (cs.drop 50).take 1 = [.bool dead] := e13
  have e14 : (cs.drop 51).take 1 = [.bool snap] := e14
  have e18 : (cs.drop 73).take 1 = [.int .i64 code] := e18
  refine ⟨⟨kind, fr, to, ep, ix, ct, op, tr, cf, en, has, key, val, dead, snap, dp, av, c0, c1, c2, code⟩, ?_⟩
  have a0 := cut_at cs 0 1
  rw [e0] at a0
  have a1 := cut_at cs 1 4
  rw [e1] at a1
  have a2 := cut_at cs 5 4
  rw [e2] at a2
  have a3 := cut_at cs 9 1
  rw [e3] at a3
  have a4 := cut_at cs 10 1
  rw [e4] at a4
  have a5 := cut_at cs 11 1
  rw [e5] at a5
  have a6 := cut_at cs 12 1
  rw [e6] at a6
  have a7 := cut_at cs 13 1
  rw [e7] at a7
  have a8 := cut_at cs 14 13
  rw [e8] at a8
  have a9 := cut_at cs 27 20
  rw [e9] at a9
  have a10 := cut_at cs 47 1
  rw [e10] at a10
  have a11 := cut_at cs 48 1
  rw [e11] at a11
  have a12 := cut_at cs 49 1
  rw [e12] at a12
  have a13 := cut_at cs 50 1
  rw [e13] at a13
  have a14 := cut_at cs 51 1
  rw [e14] at a14
  have a15 := cut_at cs 52 9
  rw [e15] at a15
  have a16 := cut_at cs 61 9
  rw [e16] at a16
  have a17 := cut_at cs 70 3
  rw [e17] at a17
  have a18 := cut_at cs 73 1
  rw [e18] at a18
  rw [show cs.drop (73 + 1) = [] from List.drop_eq_nil_of_le (by omega)] at a18
  rw [List.drop_zero] at a0
  rw [a0, show 0 + 1 = 1 from rfl, a1, show 1 + 4 = 5 from rfl, a2, show 5 + 4 = 9 from rfl, a3, show 9 + 1 = 10 from rfl, a4, show 10 + 1 = 11 from rfl, a5, show 11 + 1 = 12 from rfl, a6, show 12 + 1 = 13 from rfl, a7, show 13 + 1 = 14 from rfl, a8, show 14 + 13 = 27 from rfl, a9, show 27 + 20 = 47 from rfl, a10, show 47 + 1 = 48 from rfl, a11, show 48 + 1 = 49 from rfl, a12, show 49 + 1 = 50 from rfl, a13, show 50 + 1 = 51 from rfl, a14, show 51 + 1 = 52 from rfl, a15, show 52 + 9 = 61 from rfl, a16, show 61 + 9 = 70 from rfl, a17, show 70 + 3 = 73 from rfl, a18]
  rfl
end
/-- An act of the statements. -/
structure Ac where
  (k a b n : Int)
  m : Msg
def Ac.enc (x : Ac) : List Value := [.int .i64 x.k, .int .i64 x.a, .int .i64 x.b, .int .i64 x.n] ++ x.m.enc
instance : Enc Ac := ⟨78, Ac.enc, fun _ => rfl, fun _ => rfl, by decide⟩
set_option maxRecDepth 100000 in
theorem rd_ac : RdOk Try.prog 51 Ac (fun _ _ => True) := rd_of fun H enc w cs h => by
  have hl : cs.length = 78 := h.len (i := 0)
  obtain ⟨k, e0, _⟩ := (h.field 0).int
  obtain ⟨a, e1, _⟩ := (h.field 1).int
  obtain ⟨b, e2, _⟩ := (h.field 2).int
  obtain ⟨n, e3, _⟩ := (h.field 3).int
  have h4 : StOk enc Try.prog w 49 ((cs.drop 4).take 74) := h.field 4
  obtain ⟨m, e4⟩ := rd_msg h4
  have e0 : (cs.drop 0).take 1 = [.int .i64 k] := e0
  have e1 : (cs.drop 1).take 1 = [.int .i64 a] := e1
  have e2 : (cs.drop 2).take 1 = [.int .i64 b] := e2
  have e3 : (cs.drop 3).take 1 = [.int .i64 n] := e3
  have a0 := cut_at cs 0 1
  have a1 := cut_at cs 1 1
  have a2 := cut_at cs 2 1
  have a3 := cut_at cs 3 1
  have a4 := cut_at cs 4 74
  rw [e0, List.drop_zero] at a0
  rw [e1] at a1
  rw [e2] at a2
  rw [e3] at a3
  rw [e4, show cs.drop (4 + 74) = [] from List.drop_eq_nil_of_le (by omega), List.append_nil] at a4
  refine ⟨⟨k, a, b, n, m⟩, ?_, trivial⟩
  rw [a0, show 0 + 1 = 1 from rfl, a1, show 1 + 1 = 2 from rfl, a2, show 2 + 1 = 3 from rfl, a3, show 3 + 1 = 4 from rfl, a4]
  rfl
end Go.Proofs.Ytfcefidmdijjkaa

/-
  master: turned; what is told, in plain Lean.
-/
set_option linter.unusedVariables false
set_option linter.unusedSimpArgs false
namespace Go.Proofs.Ytfcefidmdijjkaa
open Go Go.Sl

/-- The message of an act of the kinds 6, 7. -/
def turnM (a : Ac) (dc : Int) (c : Cfg) : Msg := if a.k = 6 then { Msg.z with kind := 10, fr := ⟨1, dc, a.a, a.b⟩, ep := a.n } else { Msg.z with kind := 11, fr := ⟨1, dc, a.a, a.b⟩, ep := c.ep }
set_option maxRecDepth 4000 in
theorem turned_ct (a : Ac) (dc : Int) (c : Cfg) :
    Ct Try.prog 12 [.agg (List.toArray a.enc), .int .i64 dc, .agg (List.toArray c.enc)] [] (fun v H' => v = .agg (List.toArray (turnM a dc c).enc) ∧ H' = []) := by
  refine Ct.mk' Try.func12 rfl rfl rfl (fun g R => ?_)
  try simp only [List.cons_append]
  simp only [List.nil_append]
  by_cases h6 : a.k = 6
  · obtain ⟨x, hx⟩ : ∃ x, x = turnM a dc c := ⟨_, rfl⟩
    rw [← hx]
    rw [show turnM a dc c = _ from if_pos h6] at hx
    subst hx
    repeat' (first | refine go ?_ | refine mv ?_ | (refine I.ld ?_; refine ld rfl ?_) | (refine I.fa ?_; refine fa ?_) | refine bx rfl (fun _ => ?_) | refine al (fun _ => ?_) | (refine I.bd ?_; refine bdN (t := 32) [.int .i64 1, .int .i64 dc, .int .i64 a.a, .int .i64 a.b] ?_ (hf' := by exact rfl)) | fail)
    rename_i b3 b5 b6 b7
    refine WX.hp (H' := [[(b7, .cells (List.toArray Ad4.z.enc) 32 (0, 0))], [(b6, .cells (List.toArray Msg.z.enc) 49 (0, 0))], CfBk b5 c, [(b3, .cells (List.toArray a.enc) 51 (0, 0))], R]) rfl ?_
    repeat' (first | refine go ?_ | (refine I.ld ?_; refine ld rfl ?_) | (refine I.fa ?_; refine fa ?_) | (refine I.bin ?_; refine cm rfl rfl ?_) | (refine I.cond ?_; refine cP ?_) | (refine I.bd ?_; refine bdN (Msg.enc { Msg.z with kind := 10, fr := ⟨1, dc, a.a, a.b⟩, ep := a.n }) ?_) | (refine I.ld ?_; refine lAN (Ad4.enc ⟨1, dc, a.a, a.b⟩) (Ad4.enc ⟨1, dc, a.a, a.b⟩) rfl ?_) | (refine I.st ?_; first | refine sGW Ad4.z.enc (Ad4.enc ⟨1, dc, a.a, a.b⟩) rfl rfl ?_ | refine sGW Msg.z.enc (Msg.enc { Msg.z with kind := 10, fr := ⟨1, dc, a.a, a.b⟩, ep := a.n }) rfl rfl ?_) | fail)
    exact D.finR1 [] _ rfl (.cellA rfl rfl .nil) ⟨rfl, rfl⟩
  · obtain ⟨x, hx⟩ : ∃ x, x = turnM a dc c := ⟨_, rfl⟩
    rw [← hx]
    rw [show turnM a dc c = _ from if_neg h6] at hx
    subst hx
    repeat' (first | refine go ?_ | refine mv ?_ | (refine I.ld ?_; refine ld rfl ?_) | (refine I.fa ?_; refine fa ?_) | refine bx rfl (fun _ => ?_) | refine al (fun _ => ?_) | (refine I.bd ?_; refine bdN (t := 32) [.int .i64 1, .int .i64 dc, .int .i64 a.a, .int .i64 a.b] ?_ (hf' := by exact rfl)) | fail)
    rename_i b3 b5 b6 b7
    refine WX.hp (H' := [[(b7, .cells (List.toArray Ad4.z.enc) 32 (0, 0))], [(b6, .cells (List.toArray Msg.z.enc) 49 (0, 0))], CfBk b5 c, [(b3, .cells (List.toArray a.enc) 51 (0, 0))], R]) rfl ?_
    repeat' (first | refine go ?_ | (refine I.ld ?_; refine ld rfl ?_) | (refine I.fa ?_; refine fa ?_) | (refine I.bin ?_; refine cm rfl rfl ?_) | (refine I.cond ?_; refine cN ?_) | (refine I.bd ?_; refine bdN (Msg.enc { Msg.z with kind := 11, fr := ⟨1, dc, a.a, a.b⟩, ep := c.ep }) ?_) | (refine I.ld ?_; refine lAN (Ad4.enc ⟨1, dc, a.a, a.b⟩) (Ad4.enc ⟨1, dc, a.a, a.b⟩) rfl ?_) | (refine I.st ?_; first | refine sGW Ad4.z.enc (Ad4.enc ⟨1, dc, a.a, a.b⟩) rfl rfl ?_ | refine sGW Msg.z.enc (Msg.enc { Msg.z with kind := 11, fr := ⟨1, dc, a.a, a.b⟩, ep := c.ep }) rfl rfl ?_) | fail)
    exact D.finR1 [] _ rfl (.cellA rfl rfl .nil) ⟨rfl, rfl⟩

theorem cells_self {ks : List CK} {xs : List Value} (h : cksB ks xs = true) : cellsEq ks xs xs = some true := by
  obtain ⟨b, e, i⟩ := cellsEq_iff h h
  rw [e, i.2 rfl]

/-- Told by a master is a range's chain, to one of its nodes. -/
def Told (s : MS) (k : Nat) (x : Msg) : Prop := ∃ (r n : Nat), r < k ∧ r < s.rn ∧ n < s.nn ∧ x = tellM s.dc r (n : Int) (s.ch r).cfg
theorem lay_told {s : MS} {r : Nat} (hr : r < s.rn) {c : Ch} : ∀ x ∈ (layS s r c).2, ∃ n : Nat, n < s.nn ∧ x = tellM s.dc r (n : Int) ((layS s r c).1.ch r).cfg := by
  intro x hx
  unfold layS at hx ⊢
  by_cases hrm : roomB s.lg 1 = true
  · simp only [hrm, if_true] at hx ⊢
    obtain ⟨n, hn, rfl⟩ := List.mem_map.1 hx
    exact ⟨n, List.mem_range.1 hn, by rw [updF_same]⟩
  · simp only [hrm] at hx; cases hx
theorem lay_ch {s : MS} {r i : Nat} {c : Ch} (h : i ≠ r) : (layS s r c).1.ch i = s.ch i := by
  unfold layS
  simp only []
  split
  · exact updF_ne h
  · rfl
theorem tick1_told {s : MS} {r : Nat} (hr : r < s.rn) : ∀ x ∈ (tick1S s r).2, ∃ n : Nat, n < s.nn ∧ x = tellM s.dc r (n : Int) ((tick1S s r).1.ch r).cfg := by
  unfold tick1S
  split
  · exact fun x hx => lay_told (s := s.tick r) hr x hx
  · intro x hx; cases hx
theorem tick1_ch {s : MS} {r i : Nat} (h : i ≠ r) : (tick1S s r).1.ch i = s.ch i := by
  unfold tick1S
  split
  · exact lay_ch (s := s.tick r) h
  · rfl
theorem tickK_told {s : MS} : ∀ k, k ≤ s.rn → ∀ x ∈ (tickK s k).2, Told (tickK s k).1 k x
  | 0, _ => by intro x hx; cases hx
  | k + 1, hk => by
    intro x hx
    have ih := tickK_told (s := s) k (by omega)
    have sm := SameM.tickK s k
    have sm1 := SameM.tick1 (tickK s k).1 k
    rcases List.mem_append.1 (show x ∈ (tickK s k).2 ++ (tick1S (tickK s k).1 k).2 from hx) with hx | hx
    · obtain ⟨r, n, h1, h2, h3, h4⟩ := ih x hx
      refine ⟨r, n, by omega, ?_, ?_, ?_⟩
      · show r < (tick1S (tickK s k).1 k).1.rn; rw [sm1.rn]; exact h2
      · show n < (tick1S (tickK s k).1 k).1.nn; rw [sm1.nn]; exact h3
      · show x = tellM (tick1S (tickK s k).1 k).1.dc r n ((tick1S (tickK s k).1 k).1.ch r).cfg
        rw [sm1.dc, tick1_ch (by omega)]; exact h4
    · obtain ⟨n, h1, h2⟩ := tick1_told (s := (tickK s k).1) (by rw [sm.rn]; omega) x hx
      refine ⟨k, n, by omega, ?_, ?_, ?_⟩
      · show k < (tick1S (tickK s k).1 k).1.rn; rw [sm1.rn, sm.rn]; omega
      · show n < (tick1S (tickK s k).1 k).1.nn; rw [sm1.nn]; exact h1
      · show x = tellM (tick1S (tickK s k).1 k).1.dc k n _
        rw [sm1.dc]; exact h2
theorem SameM.tick (s : MS) : SameM s (tickS s).1 := by
  unfold tickS
  split
  · exact SameM.tickK s _
  · exact SameM.rfl' s
theorem SameM.sus (s : MS) (r n : Int) : SameM s (susS s r n).1 := by
  unfold susS
  split
  · split
    · exact SameM.lay s _ _
    · exact SameM.rfl' s
  · exact SameM.rfl' s
theorem SameM.hello (s : MS) (r : Nat) (n ep : Int) : SameM s (helloS s r n ep).1 := by
  unfold helloS
  split <;> exact ⟨rfl, rfl, rfl, rfl, rfl, rfl⟩
theorem SameM.caught (s : MS) (r : Nat) (ep : Int) : SameM s (caughtS s r ep).1 := by
  unfold caughtS
  split
  · split <;> exact ⟨rfl, rfl, rfl, rfl, rfl, rfl⟩
  · exact SameM.rfl' s
theorem SameM.handle (s : MS) (x : Msg) : SameM s (handleS s x).1 := by
  unfold handleS
  repeat' split
  all_goals first | exact SameM.rfl' s | exact SameM.hello s _ _ _ | exact SameM.caught s _ _
theorem nodeB_rg {s : MS} {a : Ad4} (h : nodeB s a = true) : a.rg.toNat < s.rn ∧ 0 ≤ a.rg ∧ 0 ≤ a.nd ∧ a.nd < (s.nn : Int) := by
  have := of_decide_eq_true (show decide _ = true from h)
  omega
theorem MsOk.handle {s : MS} (ok : MsOk s) (x : Msg) : MsOk (handleS s x).1 := by
  unfold handleS
  by_cases hup : s.up = false
  · rw [if_pos hup]; exact ok
  rw [if_neg hup]
  by_cases h1 : x.kind = 1
  · rw [if_pos h1]; exact ok
  rw [if_neg h1]
  by_cases hn : nodeB s x.fr = false
  · rw [if_pos hn]; exact ok
  rw [if_neg hn]
  obtain ⟨hr, -⟩ := nodeB_rg (by simpa using hn)
  by_cases h10 : x.kind = 10
  · rw [if_pos h10]
    unfold helloS
    split
    · rename_i c hc
      exact (ok.heard _ _).lay hr ((ok.ch _ hr).addL hc)
    · exact ok.heard _ _
  rw [if_neg h10]
  by_cases h11 : x.kind = 11
  · rw [if_pos h11]
    unfold caughtS
    split
    · rename_i c hc
      split
      · exact ok.lay hr ((ok.ch _ hr).growL hc)
      · exact ok
    · exact ok
  · rw [if_neg h11]; exact ok
theorem MsOk.tickAll {s : MS} (ok : MsOk s) : MsOk (tickS s).1 := by
  unfold tickS
  split
  · exact ok.tickK _ (Nat.le_refl _)
  · exact ok
theorem MsOk.sus {s : MS} (ok : MsOk s) (r n : Int) : MsOk (susS s r n).1 := by
  unfold susS
  split
  · rename_i h
    split
    · rename_i c hc
      exact ok.lay (by omega) ((ok.ch _ (by omega)).dropL hc)
    · exact ok
  · exact ok
/-- Said by a master that is up. -/
def Said (q : MS × List Msg) : Prop := ∀ x ∈ q.2, q.1.up = true ∧ Told q.1 q.1.rn x
theorem said_nil (s : MS) : Said (s, []) := fun x hx => by cases hx
theorem said_lay {s : MS} {r : Nat} (hr : r < s.rn) (hup : s.up = true) {c : Ch} : Said (layS s r c) := fun x hx => by
  obtain ⟨n, h1, h2⟩ := lay_told hr x hx
  exact ⟨hup, r, n, hr, hr, h1, h2⟩
theorem said_tick (s : MS) : Said (tickS s) := fun x hx => by
  unfold tickS at hx ⊢
  by_cases hup : s.up = true
  · rw [if_pos hup] at hx ⊢
    obtain ⟨r, n, h1, h2, h3, h4⟩ := tickK_told s.rn (Nat.le_refl _) x hx
    exact ⟨by rw [(SameM.tickK s s.rn).up]; exact hup, r, n, by rw [(SameM.tickK s s.rn).rn]; exact h1, h2, h3, h4⟩
  · rw [if_neg hup] at hx; cases hx
theorem said_sus (s : MS) (r n : Int) : Said (susS s r n) := by
  unfold susS
  split
  · rename_i h
    split
    · exact said_lay (by omega) h.1
    · exact said_nil s
  · exact said_nil s
theorem said_handle {s : MS} (x : Msg) (hx : x.kind ≠ 1) : Said (handleS s x) := by
  unfold handleS
  by_cases hup : s.up = false
  · rw [if_pos hup]; exact said_nil s
  rw [if_neg hup, if_neg hx]
  have hup' : s.up = true := by simpa using hup
  by_cases hn : nodeB s x.fr = false
  · rw [if_pos hn]; exact said_nil s
  rw [if_neg hn]
  obtain ⟨hr, hr0, hn0, hn1⟩ := nodeB_rg (by simpa using hn)
  by_cases h10 : x.kind = 10
  · rw [if_pos h10]
    unfold helloS
    split
    · exact said_lay (s := s.heard _ _) hr hup'
    · intro y hy
      simp only [] at hy
      split at hy
      · rw [List.mem_singleton.1 hy]
        exact ⟨hup', x.fr.rg.toNat, x.fr.nd.toNat, hr, hr, by show x.fr.nd.toNat < s.nn; omega, by rw [Int.toNat_of_nonneg hn0]; rfl⟩
      · cases hy
  rw [if_neg h10]
  by_cases h11 : x.kind = 11
  · rw [if_pos h11]
    unfold caughtS
    split
    · split
      · exact said_lay hr hup'
      · exact said_nil s
    · exact said_nil s
  · rw [if_neg h11]; exact said_nil s
/-- An act at the program's master. -/
def actT (s : MS) (dc : Int) (a : Ac) : MS × List Msg :=
  if a.k = 2 then tickS s else if a.k = 3 then susS s a.a a.b else if a.k = 4 then (crashS s, []) else if a.k = 5 then (startS s, []) else if a.k = 6 ∨ a.k = 7 then handleS s (turnM a dc (confS s a.a)) else (s, [])
theorem turnM_kind {a : Ac} {dc : Int} {c : Cfg} : (turnM a dc c).kind ≠ 1 := by
  unfold turnM; split <;> simp
structure SameL (s t : MS) : Prop where
  dcs : t.dcs = s.dcs
  cl : t.cl = s.cl
  rn : t.rn = s.rn
  nn : t.nn = s.nn
  dc : t.dc = s.dc
theorem SameM.l {s t : MS} (h : SameM s t) : SameL s t := ⟨h.dcs, h.cl, h.rn, h.nn, h.dc⟩
theorem SameL.trans {a b c : MS} (h : SameL a b) (k : SameL b c) : SameL a c := ⟨k.dcs.trans h.dcs, k.cl.trans h.cl, k.rn.trans h.rn, k.nn.trans h.nn, k.dc.trans h.dc⟩
theorem start_same (s : MS) : SameL s (startS s) := by
  unfold startS
  split <;> exact ⟨rfl, rfl, rfl, rfl, rfl⟩
theorem actT_same (s : MS) (dc : Int) (a : Ac) : SameL s (actT s dc a).1 := by
  unfold actT
  repeat' split
  all_goals first | exact (SameM.tick s).l | exact (SameM.sus s _ _).l | exact ⟨rfl, rfl, rfl, rfl, rfl⟩ | exact start_same s | exact (SameM.handle s _).l
theorem actT_ok {s : MS} (ok : MsOk s) (dc : Int) (a : Ac) : MsOk (actT s dc a).1 := by
  unfold actT
  repeat' split
  all_goals first | exact ok.tickAll | exact ok.sus _ _ | exact ok.crash | exact ok.start | exact ok.handle _ | exact ok
theorem actT_said (s : MS) (dc : Int) (a : Ac) : Said (actT s dc a) := by
  unfold actT
  repeat' split
  all_goals first | exact said_tick s | exact said_sus s _ _ | exact said_nil _ | exact said_handle _ turnM_kind
end Go.Proofs.Ytfcefidmdijjkaa

/-
  able is true.
-/
set_option linter.unusedVariables false
set_option linter.unusedSimpArgs false
namespace Go.Sl
open Go
section
variable {g : World} {P : Program} {ops : Array Oper} {Q : Exit → Act → World → Prop} {q : Bool} {n d ty : Nat} {pos : String} {af : Array Edge} {rest : List Oper} {L : Fm} {H : HH} {v : Value}
theorem WX.fld {x : Operand} {t f off ft : Nat} {cs : List Value} (hx : ev L x = some (.agg cs.toArray)) [h : TFt P t f off ft] [tl : TL P ft 1 false] (hc : cs[off]? = some v) (hd : Nat.blt d n = true)
    (k : WX q g P ops Q n rest ((d, v) :: L) H) : WX q g P ops Q n (⟨some d, .field t x f, ty, pos, af, none⟩ :: rest) L H :=
  WX.val (fun a ha w _ => by
    obtain ⟨fs, fd, h1, h2, h3, h4⟩ := h.h
    obtain ⟨hl, hv⟩ := List.getElem?_eq_some_iff.1 hc
    obtain ⟨u, hu, hp⟩ := part_at (P := P) (w := w) (t := ft) (off := off) (pre := cs.take off) (mid := [v]) (post := cs.drop (off + 1)) (by rw [tl.a]; rfl) tl.s (fun _ => rfl) (by rw [List.length_take]; omega)
    have e : cs.take off ++ [v] ++ cs.drop (off + 1) = cs := by rw [← hv, List.append_assoc]; show cs.take off ++ (cs[off] :: cs.drop (off + 1)) = cs; rw [← List.drop_eq_getElem_cons hl, List.take_append_drop]
    rw [e] at hu
    have hp : [v] = [u] := by unfold PartAt at hp; rw [tl.a] at hp; exact hp
    cases hp
    have hu' : (part fd.type cs.toArray fd.offset).run P w = .ok v w := by rw [h3, h4]; exact hu
    simp [execOp, ha.ev hx, Instr.field, underlying, h1, h2, asAgg, hu']) hd k
end
end Go.Sl
namespace Go.Proofs.Ytfcefidmdijjkaa
open Go Go.Sl

abbrev LBk (b : Nat) (a : Int) (rn nn : Nat) (e : Int) : Hp := [(b, .cells (List.toArray (LayV a rn nn e)) 23 (0, 0))]
theorem layS_room {s : MS} {r : Nat} {c : Ch} (h : roomB s.lg 1 = true) : layS s r c = (⟨s.dcs, s.cl, s.rn, s.nn, s.dc, s.up, layL s.lg r c.cfg, updF s.ch r c, s.wt⟩, tells s.dc r s.nn c.cfg) := by
  unfold layS; simp only [h, if_true]
def ab0 : MS := newS 1 1 2 1 0
def abC1 : Ch := ⟨2, [⟨0, 1⟩], none⟩
def abC2 : Ch := ⟨3, [⟨0, 1⟩], some ⟨1, 3⟩⟩
def abX : Msg := { Msg.z with kind := 10, fr := ⟨1, 0, 0, 1⟩ }
theorem ab0_ok : MsOk ab0 := newS_ok (by decide) (by decide) (by decide) (by decide)
theorem ab_1 : (susS ab0 0 1).2 = [tellM 0 0 0 abC1.cfg, tellM 0 0 1 abC1.cfg] ∧ MsOk (susS ab0 0 1).1 ∧
    (handleS (susS ab0 0 1).1 abX).2 = [tellM 0 0 0 abC2.cfg, tellM 0 0 1 abC2.cfg] ∧ MsOk (handleS (susS ab0 0 1).1 abX).1 ∧
    confS (handleS (susS ab0 0 1).1 abX).1 0 = abC2.cfg ∧ (handleS (susS ab0 0 1).1 abX).1.up = true := by
  have ok0 := ab0_ok
  have hl0 := newL_ok (nn := 2) (by decide) (by decide) 1 (by decide)
  have hr0 : roomB ab0.lg 1 = true := newL_room (nn := 2) (by decide) (by decide) (k := 1) (by decide)
  have e1 : susS ab0 0 1 = layS ab0 0 abC1 := rfl
  have okc1 : ChOk abC1 := (ok0.ch 0 (by decide)).dropL (n := 1) (c' := abC1) rfl
  have ok1 : MsOk (layS ab0 0 abC1).1 := ok0.lay (by decide) okc1
  rw [e1]
  rw [layS_room hr0] at ok1 ⊢
  obtain ⟨_, g2, g3⟩ := lay_log ok0.lg (r := 0) (by decide) (Ch.cfgN okc1) hr0
  have hr1 : roomB (layL ab0.lg 0 abC1.cfg) 1 = true := room_few g2 (by rw [g3, List.length_append]; show (recs (newL 2 1)).length + 1 ≤ 62; rw [hl0.2]; decide)
  generalize hs1 : (⟨ab0.dcs, ab0.cl, ab0.rn, ab0.nn, ab0.dc, ab0.up, layL ab0.lg 0 abC1.cfg, updF ab0.ch 0 abC1, ab0.wt⟩ : MS) = s1 at ok1 ⊢
  have h1up : s1.up = true := by rw [← hs1]; rfl
  have h1rn : s1.rn = 1 := by rw [← hs1]; rfl
  have h1nn : s1.nn = 2 := by rw [← hs1]; rfl
  have h1dc : s1.dc = 0 := by rw [← hs1]; rfl
  have h1ch : s1.ch 0 = abC1 := by rw [← hs1]; rfl
  have h1lg : s1.lg = layL ab0.lg 0 abC1.cfg := by rw [← hs1]
  have hnb : nodeB s1 abX.fr = true := decide_eq_true ⟨h1up, rfl, h1dc.symm, ⟨by decide, by rw [h1rn]; decide⟩, ⟨by decide, by rw [h1nn]; decide⟩⟩
  have e2 : handleS s1 abX = layS (s1.heard 0 1) 0 abC2 := by
    unfold handleS
    rw [if_neg (by rw [h1up]; decide), if_neg (show ¬ abX.kind = 1 by decide), if_neg (by rw [hnb]; decide), if_pos (show abX.kind = 10 from rfl)]
    show helloS s1 0 1 0 = _
    unfold helloS
    rw [h1ch]
    rfl
  have okh := ok1.handle abX
  have hr2 : roomB (s1.heard 0 1).lg 1 = true := by show roomB s1.lg 1 = true; rw [h1lg]; exact hr1
  rw [e2, layS_room hr2] at okh ⊢
  have eL : [tellM 0 0 0 abC2.cfg, tellM 0 0 1 abC2.cfg] = tells 0 0 2 abC2.cfg := rfl
  refine ⟨rfl, ok1, ?_, okh, ?_, h1up⟩
  · show tells s1.dc 0 s1.nn abC2.cfg = _
    rw [h1dc, h1nn, eL]
  · unfold confS
    rw [if_pos ⟨h1up, by decide, by show (0 : Int) < (s1.rn : Int); rw [h1rn]; decide⟩]
    rfl
set_option maxRecDepth 40000 in
theorem able_ct : Ct Try.prog 5 [] [] (fun r H' => r = .bool true ∧ H' = []) := by
  have hnew := mnewOk_ct (a := 1) (e := 1) (dc := 0) (rn := 1) (nn := 2) ⟨by omega, by omega, by omega, by omega, by omega⟩
  obtain ⟨a1, ok1, a2, ok2, a3, a4⟩ := ab_1
  obtain ⟨l1, e1⟩ : ∃ l, (susS ab0 0 1).2 = l := ⟨_, rfl⟩
  obtain ⟨l2, e2⟩ : ∃ l, (handleS (susS ab0 0 1).1 abX).2 = l := ⟨_, rfl⟩
  have g1 : l1.length = 2 := by rw [← e1, a1]; rfl
  have g2 : l2.length = 2 := by rw [← e2, a2]; rfl
  obtain ⟨m1, g3, g5⟩ : ∃ m1, l1[0]? = some m1 ∧ m1.cf.ep = 2 := ⟨tellM 0 0 0 abC1.cfg, by rw [← e1, a1]; rfl, rfl⟩
  obtain ⟨m2, g4, g6⟩ : ∃ m2, l2[1]? = some m2 ∧ m2.cf.jo = true := ⟨tellM 0 0 1 abC2.cfg, by rw [← e2, a2]; rfl, rfl⟩
  obtain ⟨cc, a3', g7⟩ : ∃ cc : Cfg, confS (handleS (susS ab0 0 1).1 abX).1 0 = cc ∧ cc.ep = 3 := ⟨_, a3, rfl⟩
  clear a1 a2 a3
  have ok0 := ab0_ok
  refine Ct.mk' Try.func5 rfl rfl rfl (fun g R => ?_)
  try simp only [List.cons_append]
  simp only [List.nil_append]
  repeat' (first | refine go ?_ | refine asg ?_ | (refine I.bd ?_; refine bdN (t := 23) (LayV 1 ((1 : Nat) : Int) ((2 : Nat) : Int) 1) ?_ (hf' := by exact rfl)) | fail)
  refine WX.call rfl hnew rfl ?_
  rintro _ _ ⟨b, h, rfl, rfl, hm⟩
  simp only [List.cons_append, List.nil_append]
  repeat' (first | refine go ?_ | refine mv ?_ | refine asg ?_ | (refine I.gd ?_; refine gy ?_) | (refine I.bin ?_; first | refine cm rfl rfl ?_ | refine np rfl rfl ?_) | (refine I.pk ?_; refine pF ?_) | (refine I.cond ?_; refine cF ?_) | refine ex ?_ | fail)
  refine WX.call rfl (msus_ct ok0 hm 0 1) rfl ?_
  rintro v3 _ ⟨h1, ho1, rfl, hm1, hs1⟩
  rw [e1] at hs1
  simp only [List.cons_append, List.nil_append]
  repeat' (first | refine go ?_ | refine mv ?_ | refine asg ?_ | (refine I.bd ?_; first | refine bdN (t := 32) [.int .i64 1, .int .i64 0, .int .i64 0, .int .i64 1] ?_ (hf' := by exact rfl) | refine bdN abX.enc ?_) | fail)
  refine WX.call rfl (mhandle_ct ok1 hm1 abX) rfl ?_
  rintro v4 _ ⟨h2, ho2, rfl, hm2, hs2⟩
  rw [e2] at hs2
  have hcf := mconf_ct ok2 hm2 0
  rw [a3'] at hcf
  have hup := mup_ct hm2
  rw [a4] at hup
  have hr1 := hs1.rs
  have hr2 := hs2.rs
  obtain ⟨p1, c1, rfl⟩ := hr1.len
  obtain ⟨p2, c2, rfl⟩ := hr2.len
  clear hs1 hs2 ok0 ok1 ok2 a4 a3' hm hm1 hm2 hnew e1 e2
  simp only [List.cons_append, List.nil_append]
  repeat' (first | refine go ?_ | refine mv ?_ | (refine I.ld ?_; refine lE rfl (by assumption) ?_) | refine asg ?_ | (refine I.gd ?_; first | refine gy ?_ | refine gT ?_) | (refine I.fa ?_; refine fE rfl ?_) | (refine I.bin ?_; refine cm rfl rfl ?_) | (refine I.pk ?_; refine pT ?_) | (refine I.bi ?_; refine ln rfl (by assumption) ?_) | (refine I.ix ?_; refine ix rfl rfl ?_) | fail)
  rw [g6]
  repeat' (first | refine mv ?_ | (refine I.gd ?_; refine gy ?_) | (refine I.cl ?_; refine WX.callQ rfl hcf rfl ?_) | fail)
  refine I.fd ?_
  refine WX.fld rfl (v := .int .i64 cc.ep) rfl rfl ?_
  repeat' (first | refine go ?_ | refine mv ?_ | refine asg ?_ | (refine I.gd ?_; first | refine gy ?_ | refine gT ?_) | (refine I.bin ?_; refine cm rfl rfl ?_) | (refine I.pk ?_; refine pT ?_) | (refine I.cl ?_; refine WX.callQ rfl hup rfl ?_) | fail)
  exact D.fin1 [] _ rfl rfl ⟨by simp, rfl⟩
end Go.Proofs.Ytfcefidmdijjkaa

/-
  master: left without a word, in plain Lean.
-/
set_option linter.unusedVariables false
set_option linter.unusedSimpArgs false
namespace Go.Proofs.Ytfcefidmdijjkaa
open Go Go.Sl

def wS (nn : Nat) (k : Int) : Nat → List Int
  | 0 => List.replicate nn 0
  | i + 1 => tickL (heard1 (wS nn k i) k)
def cS (nn : Nat) (k : Int) : Nat → Ch
  | 0 => firstCh nn
  | i + 1 => ((silL (wS nn k (i + 1)) 4).findSome? (dropL (cS nn k i))).getD (cS nn k i)
def goneN (nn i : Nat) : Nat := min (i - 3) (nn - 1)
theorem cS_tab : ((List.range 4).all fun a => (List.range (a + 1)).all fun k => (List.range 16).all fun i =>
    (cS (a + 1) (k : Int) i).has (k : Int) && decide ((cS (a + 1) (k : Int) i).ep = 1 + (goneN (a + 1) i : Int)) && decide ((cS (a + 1) (k : Int) i).ms.length = (a + 1) - goneN (a + 1) i)) = true := by decide +kernel
theorem cS_is {nn k i : Nat} (h1 : 1 ≤ nn) (h4 : nn ≤ 4) (hk : k < nn) (hi : i ≤ 15) :
    (cS nn (k : Int) i).has (k : Int) = true ∧ (cS nn (k : Int) i).ep = 1 + (goneN nn i : Int) ∧ (cS nn (k : Int) i).ms.length = nn - goneN nn i := by
  obtain ⟨a, rfl⟩ : ∃ a, nn = a + 1 := ⟨nn - 1, by omega⟩
  have h := cS_tab
  rw [List.all_eq_true] at h
  have h := h a (List.mem_range.2 (by omega))
  rw [List.all_eq_true] at h
  have h := h k (List.mem_range.2 hk)
  rw [List.all_eq_true] at h
  have h := h i (List.mem_range.2 (by omega))
  simp only [Bool.and_eq_true, decide_eq_true_eq] at h
  exact ⟨h.1.1, h.1.2, h.2⟩
theorem updF_self {α : Type} {f : Nat → α} {r : Nat} : updF f r (f r) = f := by
  funext i; unfold updF; split
  · rename_i h; rw [h]
  · rfl
def stepC (s : MS) (r : Nat) : Ch := ((silL (tickL (s.wt r)) 4).findSome? (dropL (s.ch r))).getD (s.ch r)
theorem tick1_at {s : MS} (ok : MsOk s) {r : Nat} (hr : r < s.rn) (hf : (recs s.lg).length ≤ 62) :
    (tick1S s r).1.wt = updF s.wt r (tickL (s.wt r)) ∧ (tick1S s r).1.ch = updF s.ch r (stepC s r) ∧ (recs (tick1S s r).1.lg).length ≤ (recs s.lg).length + 1 := by
  unfold tick1S stepC
  cases hc : (silL (tickL (s.wt r)) 4).findSome? (dropL (s.ch r)) with
  | none => exact ⟨rfl, updF_self.symm, Nat.le_succ _⟩
  | some c =>
    obtain ⟨x, _, hx⟩ := fsome_ok hc
    have hcok := (ok.ch r hr).dropL hx
    have hrm : roomB s.lg 1 = true := room_few ok.lg hf
    obtain ⟨_, _, g3⟩ := lay_log ok.lg (r := r) (by have := ok.r3; omega) (Ch.cfgN hcok) hrm
    show (layS (s.tick r) r c).1.wt = _ ∧ (layS (s.tick r) r c).1.ch = _ ∧ (recs (layS (s.tick r) r c).1.lg).length ≤ _
    have e : (s.tick r).lg = s.lg := rfl
    unfold layS
    simp only [e, hrm, if_true]
    refine ⟨rfl, rfl, ?_⟩
    rw [g3, List.length_append, List.length_singleton]
    exact Nat.le_refl _
theorem tickK_at {s : MS} (ok : MsOk s) : ∀ k, k ≤ s.rn → (recs s.lg).length + k ≤ 62 →
    (∀ r, (tickK s k).1.wt r = if r < k then tickL (s.wt r) else s.wt r) ∧ (∀ r, (tickK s k).1.ch r = if r < k then stepC s r else s.ch r) ∧ (recs (tickK s k).1.lg).length ≤ (recs s.lg).length + k
  | 0, _, _ => ⟨fun r => by rw [if_neg (Nat.not_lt_zero _)]; rfl, fun r => by rw [if_neg (Nat.not_lt_zero _)]; rfl, Nat.le_refl _⟩
  | k + 1, hk, hf => by
    obtain ⟨h1, h2, h3⟩ := tickK_at ok k (by omega) (by omega)
    have sm := SameM.tickK s k
    obtain ⟨g1, g2, g3⟩ := tick1_at (MsOk.tickK ok k (by omega)) (r := k) (by rw [sm.rn]; omega) (by omega)
    have hw : (tickK s k).1.wt k = s.wt k := by rw [h1, if_neg (Nat.lt_irrefl _)]
    have hc : (tickK s k).1.ch k = s.ch k := by rw [h2, if_neg (Nat.lt_irrefl _)]
    have hst : stepC (tickK s k).1 k = stepC s k := by unfold stepC; rw [hw, hc]
    refine ⟨fun r => ?_, fun r => ?_, by show (recs (tick1S (tickK s k).1 k).1.lg).length ≤ _; omega⟩
    · show (tick1S (tickK s k).1 k).1.wt r = _
      rw [g1, hw]
      unfold updF
      by_cases h : r = k
      · subst h; rw [if_pos rfl, if_pos (by omega)]
      · rw [if_neg h, h1]
        by_cases h' : r < k
        · rw [if_pos h', if_pos (by omega)]
        · rw [if_neg h', if_neg (by omega)]
    · show (tick1S (tickK s k).1 k).1.ch r = _
      rw [g2, hst]
      unfold updF
      by_cases h : r = k
      · subst h; rw [if_pos rfl, if_pos (by omega)]
      · rw [if_neg h, h2]
        by_cases h' : r < k
        · rw [if_pos h', if_pos (by omega)]
        · rw [if_neg h', if_neg (by omega)]

/-- Where a master stands that was told of one node alone. -/
structure SilAt (s : MS) (rn nn k i : Nat) : Prop where
  ok : MsOk s
  up : s.up = true
  hrn : s.rn = rn
  hnn : s.nn = nn
  dc : s.dc = 0
  wt : ∀ r, r < rn → s.wt r = wS nn (k : Int) i
  ch : ∀ r, r < rn → s.ch r = cS nn (k : Int) i
  few : (recs s.lg).length ≤ 3 + 3 * i
theorem sil_new {dcs cl : Int} {rn nn : Nat} (r1 : 1 ≤ rn) (r3 : rn ≤ 3) (n1 : 1 ≤ nn) (n4 : nn ≤ 4) (k : Nat) : SilAt (newS dcs rn nn cl 0) rn nn k 0 :=
  ⟨newS_ok r1 r3 n1 n4, rfl, rfl, rfl, rfl, fun _ _ => rfl, fun _ _ => rfl, by show (recs (newL nn rn)).length ≤ _; rw [(newL_ok n1 n4 rn r3).2, List.length_map, List.length_range]; omega⟩
/-- The same in the middle of a round: the first ranges have heard of it. -/
structure SilMid (s : MS) (rn nn k i q : Nat) : Prop where
  ok : MsOk s
  up : s.up = true
  hrn : s.rn = rn
  hnn : s.nn = nn
  dc : s.dc = 0
  wt : ∀ r, r < rn → s.wt r = if r < q then heard1 (wS nn (k : Int) i) k else wS nn (k : Int) i
  ch : ∀ r, r < rn → s.ch r = cS nn (k : Int) i
  few : (recs s.lg).length ≤ 3 + 3 * i
theorem SilAt.mid {s : MS} {rn nn k i : Nat} (h : SilAt s rn nn k i) : SilMid s rn nn k i 0 := ⟨h.ok, h.up, h.hrn, h.hnn, h.dc, fun r hr => by rw [if_neg (Nat.not_lt_zero _)]; exact h.wt r hr, h.ch, h.few⟩
def helloM (r k : Nat) : Msg := { Msg.z with kind := 10, fr := ⟨1, 0, (r : Int), (k : Int)⟩, ep := 1073741824 }
theorem SilMid.hello {s : MS} {rn nn k i q : Nat} (h : SilMid s rn nn k i q) (hk : k < nn) (hi : i ≤ 15) (hq : q < rn) :
    handleS s (helloM q k) = (s.heard q (k : Int), []) ∧ SilMid (s.heard q (k : Int)) rn nn k i (q + 1) := by
  have n1 := h.ok.n1; have n4 := h.ok.n4
  rw [h.hnn] at n1 n4
  obtain ⟨c1, c2, c3⟩ := cS_is n1 n4 hk hi
  have hg : goneN nn i ≤ nn := by unfold goneN; omega
  have hnb : nodeB s (helloM q k).fr = true := decide_eq_true ⟨h.up, rfl, h.dc.symm, ⟨Int.natCast_nonneg _, by rw [h.hrn]; show ((q : Nat) : Int) < rn; omega⟩, ⟨Int.natCast_nonneg _, by rw [h.hnn]; show ((k : Nat) : Int) < nn; omega⟩⟩
  have hch := h.ch q hq
  refine ⟨?_, ⟨h.ok.heard q k, h.up, h.hrn, h.hnn, h.dc, fun r hr => ?_, h.ch, h.few⟩⟩
  · unfold handleS
    rw [if_neg (by rw [h.up]; decide), if_neg (show ¬ (helloM q k).kind = 1 by show ¬ (10 : Int) = 1; decide), if_neg (by rw [hnb]; decide), if_pos (show (helloM q k).kind = 10 from rfl)]
    show helloS s q (k : Int) 1073741824 = _
    unfold helloS
    have ha : addL (s.ch q) (k : Int) = none := by unfold addL; rw [hch, if_pos (.inr (.inr (.inr (.inr c1))))]
    rw [ha]
    show (s.heard q (k : Int), if (1073741824 : Int) < (s.ch q).ep then _ else []) = _
    rw [hch, if_neg (by rw [c2]; omega)]
  · show updF s.wt q (heard1 (s.wt q) (k : Int)) r = _
    unfold updF
    by_cases e : r = q
    · subst e
      rw [if_pos rfl, if_pos (by omega), h.wt r hr, if_neg (Nat.lt_irrefl _)]
    · rw [if_neg e, h.wt r hr]
      by_cases e2 : r < q
      · rw [if_pos e2, if_pos (by omega)]
      · rw [if_neg e2, if_neg (by omega)]
theorem SilMid.tick {s : MS} {rn nn k i : Nat} (h : SilMid s rn nn k i rn) (hi : i < 15) : SilAt (tickS s).1 rn nn k (i + 1) := by
  have r3 := h.ok.r3
  have hr3 : rn ≤ 3 := by have := h.hrn; omega
  have e : tickS s = tickK s s.rn := by unfold tickS; rw [if_pos h.up]
  obtain ⟨g1, g2, g3⟩ := tickK_at h.ok s.rn (Nat.le_refl _) (by have := h.few; omega)
  have sm := SameM.tick s
  refine ⟨h.ok.tickAll, by rw [sm.up]; exact h.up, by rw [sm.rn]; exact h.hrn, by rw [sm.nn]; exact h.hnn, by rw [sm.dc]; exact h.dc, fun r hr => ?_, fun r hr => ?_, ?_⟩
  · rw [e, g1, if_pos (by rw [h.hrn]; exact hr), h.wt r hr, if_pos hr]; rfl
  · rw [e, g2, if_pos (by rw [h.hrn]; exact hr)]
    unfold stepC
    rw [h.wt r hr, if_pos hr, h.ch r hr]
    rfl
  · rw [e]; have := h.few; omega
end Go.Proofs.Ytfcefidmdijjkaa

/-
  MasterSilent answers true.
-/
set_option linter.unusedVariables false
set_option linter.unusedSimpArgs false
namespace Go.Proofs.Ytfcefidmdijjkaa
open Go Go.Sl

theorem tmod_lt {x : Int} {n : Int} (h : 0 < n) : -n < x.tmod n ∧ x.tmod n < n :=
  ⟨by have := Int.lt_tmod_of_pos x h; omega, Int.tmod_lt_of_pos x h⟩
set_option maxRecDepth 10000 in
theorem msilent_ct {a b c e : Int} (i1 : I64 a) (hd tk : Int) :
    Ct Try.prog 4 [.agg (List.toArray (LayV a b c e)), .int .i64 hd, .int .i64 tk] [] (fun r H' => r = .bool true ∧ H' = []) := by
  refine Ct.mk' Try.func4 rfl rfl rfl (fun g R => ?_)
  try simp only [List.cons_append]
  simp only [List.nil_append]
  by_cases hok : OkL a b c e 0
  · obtain ⟨rn, rfl⟩ : ∃ rn : Nat, b = (rn : Int) := ⟨b.toNat, by have := hok.h2; omega⟩
    obtain ⟨nn, rfl⟩ : ∃ nn : Nat, c = (nn : Int) := ⟨c.toNat, by have := hok.h3; omega⟩
    have hb := hok.h2
    have hc := hok.h3
    have hnew := mnewOk_ct hok
    repeat' (first | refine go ?_ | refine asg ?_ | (refine I.cond ?_; refine cF ?_) | (refine I.un ?_; refine nt ?_) | refine bx rfl (fun _ => ?_) | (refine I.cl ?_; refine WX.callQ rfl able_ct rfl ?_) | (refine I.ld ?_; refine lAN (LayV a rn nn e) (LayV a rn nn e) rfl ?_) | fail)
    rename_i lb
    refine WX.call rfl hnew rfl ?_
    rintro _ _ ⟨b, h, rfl, rfl, hm⟩
    simp only [List.cons_append, List.nil_append]
    repeat' (first | refine go ?_ | refine mv ?_ | refine asg ?_ | (refine I.bin ?_; refine cm rfl rfl ?_) | (refine I.cond ?_; refine cF ?_) | refine ex ?_ | fail)
    refine W.hp (H' := [h, LBk lb a rn nn e, R]) rfl ?_
    refine W.quiet Try.mix (by kernel_rfl) ?_
    repeat' (first | refine mv ?_ | (refine I.ld ?_; refine ld rfl ?_) | (refine I.fa ?_; refine fa ?_) | fail)
    obtain ⟨t, ht⟩ : ∃ t, hd.tmod (nn : Int) = t := ⟨_, rfl⟩
    have ht2 := tmod_lt (x := hd) (n := (nn : Int)) (by omega)
    rw [ht] at ht2
    refine I.bin ?_
    refine WX.rem rfl rfl rfl (by omega) ?_
    rw [ht]
    repeat' (first | (refine I.ld ?_; refine ld rfl ?_) | (refine I.fa ?_; refine fa ?_) | (refine I.bin ?_; refine ad ?_) | fail)
    obtain ⟨k, hk⟩ : ∃ k : Nat, (t + (nn : Int)).tmod (nn : Int) = (k : Int) := ⟨((t + (nn : Int)).tmod (nn : Int)).toNat, by rw [Int.toNat_of_nonneg (Int.tmod_nonneg _ (by omega))]⟩
    have hk2 := tmod_lt (x := t + (nn : Int)) (n := (nn : Int)) (by omega)
    rw [hk] at hk2
    refine I.bin ?_
    refine WX.rem rfl rfl rfl (by omega) ?_
    rw [hk]
    repeat' (first | refine go ?_ | refine mv ?_ | refine asg ?_ | fail)
    obtain ⟨n, hn⟩ : ∃ n : Nat, tk % 16 = (n : Int) := ⟨(tk % 16).toNat, by omega⟩
    have hn15 : n ≤ 15 := by omega
    refine I.bin ?_
    refine WX.mask 4 16 rfl rfl (by decide) (by decide) (by decide) rfl ?_
    rw [hn]
    repeat' (first | refine go ?_ | refine asg ?_ | fail)
    have hkn : k < nn := by omega
    refine W.loop (α := Nat × MS × Hp) (fun x => x.1 ≤ n ∧ SilAt x.2.1 rn nn k x.1 ∧ IsMs x.2.1 b x.2.2) (fun x => [(3, .pointer (some ⟨lb, 0, none⟩)), (7, .pointer (some ⟨b, 0, none⟩)), (9, .int .i64 (k : Int)), (10, .int .i64 (n : Int)), (11, .int .i64 (x.1 : Int))])
      (fun x => [x.2.2, LBk lb a rn nn e, R]) (fun x => n - x.1) (0, newS a rn nn e 0, h) ⟨Nat.zero_le _, sil_new (by omega) (by omega) (by omega) (by omega) k, hm⟩ (by repeat (first | exact Fsub.nil | refine Fsub.cons rfl ?_)) (Hsub.of_picks inferInstance) ?_
    rintro ⟨i, s, h1⟩ ⟨hi, hsil, hm1⟩
    simp only [] at hi hsil hm1 ⊢
    by_cases hlt : i < n
    · repeat' (first | refine go ?_ | refine mv ?_ | refine asg ?_ | (refine I.bin ?_; refine cm rfl rfl ?_) | (refine I.cond ?_; refine cP ?_) | fail)
      refine W.loop (α := Nat × MS × Hp) (fun x => x.1 ≤ rn ∧ SilMid x.2.1 rn nn k i x.1 ∧ IsMs x.2.1 b x.2.2) (fun x => [(3, .pointer (some ⟨lb, 0, none⟩)), (7, .pointer (some ⟨b, 0, none⟩)), (9, .int .i64 (k : Int)), (10, .int .i64 (n : Int)), (11, .int .i64 (i : Int)), (12, .int .i64 (x.1 : Int))])
        (fun x => [x.2.2, LBk lb a rn nn e, R]) (fun x => rn - x.1) (0, s, h1) ⟨Nat.zero_le _, hsil.mid, hm1⟩ (by repeat (first | exact Fsub.nil | refine Fsub.cons rfl ?_)) (Hsub.of_picks inferInstance) ?_
      rintro ⟨q, s2, h2⟩ ⟨hq, hmid, hm2⟩
      simp only [] at hq hmid hm2 ⊢
      by_cases hlq : q < rn
      · obtain ⟨e1, hmid'⟩ := hmid.hello hkn (by omega) hlq
        have hhc := mhandle_ct hmid.ok hm2 (helloM q k)
        rw [e1] at hhc
        repeat' (first | refine go ?_ | refine mv ?_ | (refine I.ld ?_; refine ld rfl ?_) | (refine I.fa ?_; refine fa ?_) | (refine I.bin ?_; refine cm rfl rfl ?_) | (refine I.cond ?_; refine cP ?_) | (refine I.bd ?_; first | refine bdN (t := 32) [.int .i64 1, .int .i64 0, .int .i64 (q : Int), .int .i64 (k : Int)] ?_ (hf' := by exact rfl) | refine bdN (helloM q k).enc ?_) | fail)
        refine WX.call rfl hhc rfl ?_
        rintro v _ ⟨h3, ho, rfl, hm3, _⟩
        simp only [List.cons_append, List.nil_append]
        repeat' (first | refine go ?_ | refine mv ?_ | refine asg ?_ | (refine I.bin ?_; refine ad ?_) | fail)
        exact D.round (q + 1, s2.heard q (k : Int), h3) ⟨by simp only []; omega, hmid', hm3⟩ (by simp only []; omega) (by repeat (first | exact Fsub.nil | refine Fsub.cons rfl ?_)) (Hsub.of_picks inferInstance)
      · obtain rfl : q = rn := by omega
        have hat := hmid.tick (by omega)
        have htc := mtick_ct hmid.ok hm2
        repeat' (first | refine go ?_ | refine mv ?_ | (refine I.ld ?_; refine ld rfl ?_) | (refine I.fa ?_; refine fa ?_) | (refine I.bin ?_; refine cm rfl rfl ?_) | (refine I.cond ?_; refine cN ?_) | fail)
        refine WX.call rfl htc rfl ?_
        rintro v _ ⟨h3, ho, rfl, hm3, _⟩
        simp only [List.cons_append, List.nil_append]
        repeat' (first | refine go ?_ | refine mv ?_ | refine asg ?_ | (refine I.bin ?_; refine ad ?_) | fail)
        exact D.round (i + 1, (tickS s2).1, h3) ⟨by simp only []; omega, hat, hm3⟩ (by simp only []; omega) (by repeat (first | exact Fsub.nil | refine Fsub.cons rfl ?_)) (Hsub.of_picks inferInstance)
    · obtain rfl : i = n := by omega
      obtain ⟨g, hg⟩ : ∃ g, goneN nn i = g := ⟨_, rfl⟩
      obtain ⟨c1, c2, c3⟩ := cS_is (nn := nn) (k := k) (i := i) (by omega) (by omega) hkn hn15
      rw [hg] at c2 c3
      have hgi : (if (nn : Int) - 1 < (if (i : Int) - 3 > 0 then (i : Int) - 3 else 0) then (nn : Int) - 1 else (if (i : Int) - 3 > 0 then (i : Int) - 3 else 0)) = (g : Int) := by rw [← hg]; unfold goneN; split <;> split <;> omega
      have hok1 := hsil.ok
      obtain ⟨cc, hcc⟩ : ∃ cc, cS nn (k : Int) i = cc := ⟨_, rfl⟩
      rw [hcc] at c1 c2 c3
      have c4 : cc.cfg.n = (nn : Int) - g := by show (cc.ms.length : Int) = _; rw [c3]; omega
      have c5 : cc.cfg.ep = 1 + (g : Int) := c2
      have hccok : ChOk cc := by rw [← hcc, ← hsil.ch 0 (by omega)]; exact hok1.ch 0 (by rw [hsil.hrn]; omega)
      have hfull := full_ct hccok (k : Int)
      rw [c1] at hfull
      repeat' (first | refine go ?_ | refine mv ?_ | (refine I.ld ?_; refine ld rfl ?_) | refine asg ?_ | (refine I.fa ?_; refine fa ?_) | (refine I.bin ?_; first | refine cm rfl rfl ?_ | refine su ?_) | (refine I.cond ?_; refine cN ?_) | (refine I.bi ?_; first | refine mi ?_ | refine ma ?_) | fail)
      refine W.loop (α := Nat) (fun q => q ≤ rn) (fun q => [(3, .pointer (some ⟨lb, 0, none⟩)), (7, .pointer (some ⟨b, 0, none⟩)), (9, .int .i64 (k : Int)), (13, .int .i64 (g : Int)), (14, .int .i64 (q : Int))])
        (fun q => [h1, LBk lb a rn nn e, R]) (fun q => rn - q) 0 (Nat.zero_le _) (by rw [hgi]; exact (by repeat (first | exact Fsub.nil | refine Fsub.cons rfl ?_))) (Hsub.of_picks inferInstance) ?_
      intro q hq
      by_cases hlq : q < rn
      · have hcf := mconf_ct hok1 hm1 (q : Int)
        have hce : confS s (q : Int) = cc.cfg := by
          unfold confS
          rw [if_pos ⟨hsil.up, by omega, by rw [hsil.hrn]; omega⟩, show ((q : Nat) : Int).toNat = q from rfl, hsil.ch q hlq, hcc]
        rw [hce] at hcf
        repeat' (first | refine go ?_ | refine mv ?_ | (refine I.ld ?_; refine ld rfl ?_) | refine asg ?_ | (refine I.gd ?_; first | refine gy ?_ | refine gF ?_) | (refine I.fa ?_; refine fa ?_) | (refine I.bin ?_; first | refine cm rfl rfl ?_ | refine ad ?_ | refine su ?_) | (refine I.pk ?_; refine pF ?_) | (refine I.cond ?_; first | refine cF ?_ | refine cP ?_) | (refine I.un ?_; refine nt ?_) | refine al (fun _ => ?_) | (refine I.cl ?_; first | refine WX.callQ rfl hcf rfl ?_ | refine WX.callQ rfl hfull rfl ?_) | (refine I.st ?_; refine sGW Cfg.z.enc cc.cfg.enc rfl rfl ?_) | (refine I.ld ?_; refine lAN cc.cfg.enc cc.cfg.enc rfl ?_) | fail)
        exact D.round (q + 1) (by omega) (by omega) (by repeat (first | exact Fsub.nil | refine Fsub.cons rfl ?_)) (Hsub.of_picks inferInstance)
      · obtain rfl : q = rn := by omega
        repeat' (first | refine go ?_ | refine mv ?_ | (refine I.ld ?_; refine ld rfl ?_) | refine asg ?_ | (refine I.fa ?_; refine fa ?_) | (refine I.bin ?_; refine cm rfl rfl ?_) | (refine I.cond ?_; refine cN ?_) | fail)
        exact D.fin1 [] _ rfl rfl ⟨rfl, rfl⟩
  · have hbad := mnewBad_ct i1 hok
    repeat' (first | refine go ?_ | refine asg ?_ | (refine I.cond ?_; refine cF ?_) | (refine I.un ?_; refine nt ?_) | refine bx rfl (fun _ => ?_) | (refine I.cl ?_; refine WX.callQ rfl able_ct rfl ?_) | (refine I.ld ?_; refine lAN (LayV a b c e) (LayV a b c e) rfl ?_) | fail)
    refine WX.callQ rfl hbad rfl ?_
    repeat' (first | refine go ?_ | refine mv ?_ | refine asg ?_ | (refine I.bin ?_; first | refine cm rfl rfl ?_ | refine np rfl rfl ?_) | (refine I.cond ?_; refine cT ?_) | refine ex ?_ | fail)
    exact D.fin1 [] _ rfl rfl ⟨rfl, rfl⟩
end Go.Proofs.Ytfcefidmdijjkaa

/-
  Layouts among the inputs.
-/
set_option linter.unusedVariables false
set_option linter.unusedSimpArgs false
namespace Go.Proofs.Ytfcefidmdijjkaa
open Go Go.Sl

structure Lay4 where
  (a b c e : Int)
def Lay4.enc (l : Lay4) : List Value := LayV l.a l.b l.c l.e
instance : Enc Lay4 := ⟨4, Lay4.enc, fun _ => rfl, fun _ => rfl, by decide⟩
theorem rd_lay : RdOk Try.prog 23 Lay4 (fun _ l => I64 l.a ∧ I64 l.b ∧ I64 l.c ∧ I64 l.e) := rd_of fun H enc w cs h => by
  have hl := h.len (i := 0)
  match cs, hl with
  | [c0, c1, c2, c3], _ =>
    obtain ⟨n0, e0, i0⟩ := (h.field 0).int
    obtain ⟨n1, e1, i1⟩ := (h.field 1).int
    obtain ⟨n2, e2, i2⟩ := (h.field 2).int
    obtain ⟨n3, e3, i3⟩ := (h.field 3).int
    cases e0; cases e1; cases e2; cases e3
    exact ⟨⟨n0, n1, n2, n3⟩, rfl, i0, i1, i2, i3⟩
end Go.Proofs.Ytfcefidmdijjkaa

/-
  MasterTells answers true.
-/
set_option linter.unusedVariables false
set_option linter.unusedSimpArgs false
namespace Go.Sl
open Go
section
variable {g : World} {P : Program} {Q : Exit → Act → World → Prop} {n : Nat} {L : Fm} {H : HH}
theorem W.cutE {α : Type} {x y : Code} (I : α → Prop) (L' : α → Fm) (H' : α → HH) (h1 : W g P x (Exit.then (fun a w => ∃ i, I i ∧ At g n (L' i) (H' i) a w) Q) n L H) (h2 : ∀ i, I i → W g P y Q n (L' i) (H' i)) : W g P (.seq x y) Q n L H :=
  .mk fun a w ha hw => wp_seq (wp_mono (h1.run a w ha hw) (then_mono fun a w ⟨i, hi, h3, h4⟩ => (h2 i hi).run a w h3 h4))
theorem D.atE {α : Type} {I : α → Prop} {L' : α → Fm} {H' : α → HH} (i : α) (hi : I i) (f : Fsub L (L' i)) (s : Hsub H (H' i)) : D g (Exit.then (fun a w => ∃ i, I i ∧ At g n (L' i) (H' i) a w) Q) .normal n L H :=
  .mk fun _ _ ha hw => ⟨i, hi, ha.sub f, s.on hw⟩
end
end Go.Sl
namespace Go.Proofs.Ytfcefidmdijjkaa
open Go Go.Sl

theorem lay_len4 {s : MS} (ok : MsOk s) {r : Nat} {c : Ch} : (layS s r c).2.length ≤ 4 := Nat.le_trans lay_len ok.n4
theorem actT_len {s : MS} (ok : MsOk s) (dc : Int) (a : Ac) : (actT s dc a).2.length ≤ 12 := by
  have h4 : ∀ {t : MS} (r : Nat) (c : Ch), MsOk t → (layS t r c).2.length ≤ 12 := fun r c h => Nat.le_trans (lay_len4 h) (by decide)
  unfold actT
  split
  · unfold tickS
    split
    · have h1 := tickK_len (s := s) s.rn
      have h2 : s.nn * s.rn ≤ 4 * 3 := Nat.mul_le_mul ok.n4 ok.r3
      omega
    · exact Nat.zero_le _
  split
  · unfold susS
    split
    · split
      · exact h4 _ _ ok
      · exact Nat.zero_le _
    · exact Nat.zero_le _
  split
  · exact Nat.zero_le _
  split
  · exact Nat.zero_le _
  split
  · unfold handleS
    split
    · exact Nat.zero_le _
    split
    · show (if _ then _ else _ : List Msg).length ≤ 12
      split
      · exact (by decide : 1 ≤ 12)
      · exact Nat.zero_le _
    split
    · exact Nat.zero_le _
    split
    · unfold helloS
      split
      · exact h4 _ _ (ok.heard _ _)
      · show (if _ then _ else _ : List Msg).length ≤ 12
        split
        · exact (by decide : 1 ≤ 12)
        · exact Nat.zero_le _
    split
    · unfold caughtS
      split
      · split
        · exact h4 _ _ ok
        · exact Nat.zero_le _
      · exact Nat.zero_le _
    · exact Nat.zero_le _
  · exact Nat.zero_le _
def kMsg : List CK := .i :: ([.i, .i, .i, .i] ++ ([.i, .i, .i, .i] ++ ([.i, .i, .i, .i, .i] ++ (kCfg ++ (kEnt ++ ([.b, .s, .s, .b, .b] ++ ([.i, .i, .i, .i, .i, .i, .i, .i, .i] ++ ([.i, .i, .i, .i, .i, .i, .i, .i, .i] ++ [.i, .i, .i, .i]))))))))
def Ac.z : Ac := ⟨0, 0, 0, 0, Msg.z⟩
abbrev AcBk (b : Nat) (x : Ac) : Hp := [(b, .cells (List.toArray x.enc) 51 (0, 0))]
set_option maxRecDepth 10000 in
theorem mtells_ct {a b c e : Int} (i1 : I64 a) {acts : List Ac} {v : Value} {h0 : Hp} (hs : Rs acts v h0) (hl : acts.length ≤ 1099511627776) (rng op tr : Int) :
    Ct Try.prog 3 [.agg (List.toArray (LayV a b c e)), v, .int .i64 rng, .int .i64 op, .int .i64 tr] [h0] (fun r H' => r = .bool true ∧ H' = [h0]) := by
  obtain ⟨vp, vc, rfl⟩ := hs.len
  refine Ct.mk' Try.func3 rfl rfl rfl (fun g R => ?_)
  try simp only [List.cons_append]
  simp only [List.nil_append]
  by_cases hbig : 400 < acts.length
  · repeat' (first | refine go ?_ | refine mv ?_ | refine asg ?_ | (refine I.bin ?_; refine cm rfl rfl ?_) | (refine I.cond ?_; first | refine cF ?_ | refine cP ?_) | (refine I.bi ?_; refine ln rfl (by assumption) ?_) | (refine I.un ?_; refine nt ?_) | refine bx rfl (fun _ => ?_) | (refine I.cl ?_; refine WX.callQ rfl able_ct rfl ?_) | fail)
    exact D.fin1 [h0] _ rfl rfl ⟨rfl, rfl⟩
  by_cases hok : OkL a b c e 0
  · obtain ⟨rn, rfl⟩ : ∃ rn : Nat, b = (rn : Int) := ⟨b.toNat, by have := hok.h2; omega⟩
    obtain ⟨nn, rfl⟩ : ∃ nn : Nat, c = (nn : Int) := ⟨c.toNat, by have := hok.h3; omega⟩
    have hb := hok.h2
    have hc := hok.h3
    have hnew := mnewOk_ct hok
    repeat' (first | refine go ?_ | refine mv ?_ | refine asg ?_ | (refine I.bin ?_; refine cm rfl rfl ?_) | (refine I.cond ?_; first | refine cF ?_ | refine cN ?_) | (refine I.bi ?_; refine ln rfl (by assumption) ?_) | (refine I.un ?_; refine nt ?_) | refine bx rfl (fun _ => ?_) | (refine I.cl ?_; refine WX.callQ rfl able_ct rfl ?_) | (refine I.ld ?_; refine lAN (LayV a rn nn e) (LayV a rn nn e) rfl ?_) | fail)
    rename_i lb
    refine WX.call rfl hnew rfl ?_
    rintro _ _ ⟨b, h, rfl, rfl, hm⟩
    simp only [List.cons_append, List.nil_append]
    repeat' (first | refine go ?_ | refine mv ?_ | refine asg ?_ | (refine I.bin ?_; refine cm rfl rfl ?_) | (refine I.cond ?_; refine cF ?_) | refine ex ?_ | fail)
    refine W.hp (H' := [h, LBk lb a rn nn e, h0, R]) rfl ?_
    refine W.loop (α := Nat × MS × Hp) (fun x => x.1 ≤ acts.length ∧ MsOk x.2.1 ∧ SameL (newS a rn nn e 0) x.2.1 ∧ IsMs x.2.1 b x.2.2) (fun x => [(1, .slice vp acts.length vc), (2, .int .i64 rng), (3, .int .i64 op), (4, .int .i64 tr), (5, .pointer (some ⟨lb, 0, none⟩)), (11, .pointer (some ⟨b, 0, none⟩)), (13, .int .i64 (x.1 : Int))])
      (fun x => [x.2.2, LBk lb a rn nn e, h0, R]) (fun x => acts.length - x.1) (0, newS a rn nn e 0, h) ⟨Nat.zero_le _, newS_ok (by omega) (by omega) (by omega) (by omega), ⟨rfl, rfl, rfl, rfl, rfl⟩, hm⟩ (by repeat (first | exact Fsub.nil | refine Fsub.cons rfl ?_)) (Hsub.of_picks inferInstance) ?_
    rintro ⟨i, s, h1⟩ ⟨hi, ok, hsl, hm1⟩
    simp only [] at hi ok hsl hm1 ⊢
    have e1 : s.rn = rn := hsl.rn
    have e2 : s.nn = nn := hsl.nn
    have e3 : s.dc = 0 := hsl.dc
    by_cases hlt : i < acts.length
    · obtain ⟨x, hx⟩ : ∃ x, acts[i]? = some x := ⟨_, List.getElem?_eq_getElem hlt⟩
      repeat' (first | refine go ?_ | refine mv ?_ | refine asg ?_ | (refine I.bin ?_; refine cm rfl rfl ?_) | (refine I.cond ?_; refine cP ?_) | (refine I.bi ?_; refine ln rfl (by assumption) ?_) | (refine I.ix ?_; refine ix rfl rfl ?_) | refine al (fun _ => ?_) | (refine I.ld ?_; refine WX.loadEW rfl hs hx rfl rfl ?_) | fail)
      rename_i xb
      refine WX.hp (H' := [AcBk xb Ac.z, h1, LBk lb a rn nn e, h0, R]) rfl ?_
      refine I.st ?_
      refine sGW Ac.z.enc x.enc rfl rfl ?_
      refine WX.nil ?_
      refine D.seq ?_
      have okA := actT_ok ok 0 x
      have slA := hsl.trans (actT_same s 0 x)
      have sdA := actT_said s 0 x
      refine W.cutE (α := (MS × List Msg) × Value × Hp × Hp) (fun y => y.1 = actT s 0 x ∧ IsMs y.1.1 b y.2.2.2 ∧ IsSl 49 y.1.2 y.2.1 y.2.2.1)
        (fun y => [(1, .slice vp acts.length vc), (2, .int .i64 rng), (3, .int .i64 op), (4, .int .i64 tr), (5, .pointer (some ⟨lb, 0, none⟩)), (11, .pointer (some ⟨b, 0, none⟩)), (13, .int .i64 (i : Int)), (14, y.2.1)])
        (fun y => [y.2.2.2, y.2.2.1, LBk lb a rn nn e, h0, R]) ?_ ?_
      · by_cases k2 : x.k = 2
        · have hA : actT s 0 x = tickS s := by unfold actT; rw [if_pos k2]
          have hcc := mtick_ct ok hm1
          repeat' (first | refine go ?_ | refine mv ?_ | (refine I.ld ?_; refine ld rfl ?_) | refine asg ?_ | (refine I.fa ?_; refine fa ?_) | (refine I.bin ?_; refine cm rfl rfl ?_) | (refine I.cond ?_; refine cP ?_) | fail)
          refine WX.call rfl hcc rfl ?_
          rintro v _ ⟨h2, ho, rfl, hm2, hs2⟩
          simp only [List.cons_append, List.nil_append]
          repeat' (first | refine go ?_ | refine asg ?_ | fail)
          exact D.atE (tickS s, v, ho, h2) ⟨hA.symm, hm2, hs2⟩ (by repeat (first | exact Fsub.nil | refine Fsub.cons rfl ?_)) (Hsub.of_picks inferInstance)
        by_cases k3 : x.k = 3
        · have hA : actT s 0 x = susS s x.a x.b := by unfold actT; rw [if_neg k2, if_pos k3]
          have hcc := msus_ct ok hm1 x.a x.b
          repeat' (first | refine go ?_ | refine mv ?_ | (refine I.ld ?_; refine ld rfl ?_) | refine asg ?_ | (refine I.fa ?_; refine fa ?_) | (refine I.bin ?_; refine cm rfl rfl ?_) | (refine I.cond ?_; first | refine cP ?_ | refine cN ?_) | fail)
          refine WX.call rfl hcc rfl ?_
          rintro v _ ⟨h2, ho, rfl, hm2, hs2⟩
          simp only [List.cons_append, List.nil_append]
          repeat' (first | refine go ?_ | refine asg ?_ | fail)
          exact D.atE (susS s x.a x.b, v, ho, h2) ⟨hA.symm, hm2, hs2⟩ (by repeat (first | exact Fsub.nil | refine Fsub.cons rfl ?_)) (Hsub.of_picks inferInstance)
        by_cases k4 : x.k = 4
        · have hA : actT s 0 x = (crashS s, []) := by unfold actT; rw [if_neg k2, if_neg k3, if_pos k4]
          have hcc := mcrashS_ct hm1
          repeat' (first | refine go ?_ | refine mv ?_ | (refine I.ld ?_; refine ld rfl ?_) | refine asg ?_ | (refine I.fa ?_; refine fa ?_) | (refine I.bin ?_; refine cm rfl rfl ?_) | (refine I.cond ?_; first | refine cP ?_ | refine cN ?_) | fail)
          refine WX.call rfl hcc rfl ?_
          rintro v _ ⟨_, h2, rfl, hm2⟩
          simp only [List.cons_append, List.nil_append]
          repeat' (first | refine go ?_ | fail)
          refine D.nilH ?_
          exact D.atE ((crashS s, []), .slice none 0 0, [], h2) ⟨hA.symm, hm2, IsSl.nil _⟩ (by repeat (first | exact Fsub.nil | refine Fsub.cons rfl ?_)) (Hsub.of_picks inferInstance)
        by_cases k5 : x.k = 5
        · have hA : actT s 0 x = (startS s, []) := by unfold actT; rw [if_neg k2, if_neg k3, if_neg k4, if_pos k5]
          have hcc := mstartS_ct ok hm1
          repeat' (first | refine go ?_ | refine mv ?_ | (refine I.ld ?_; refine ld rfl ?_) | refine asg ?_ | (refine I.fa ?_; refine fa ?_) | (refine I.bin ?_; refine cm rfl rfl ?_) | (refine I.cond ?_; first | refine cP ?_ | refine cN ?_) | fail)
          refine WX.call rfl hcc rfl ?_
          rintro v _ ⟨_, h2, rfl, hm2⟩
          simp only [List.cons_append, List.nil_append]
          repeat' (first | refine go ?_ | fail)
          refine D.nilH ?_
          exact D.atE ((startS s, []), .slice none 0 0, [], h2) ⟨hA.symm, hm2, IsSl.nil _⟩ (by repeat (first | exact Fsub.nil | refine Fsub.cons rfl ?_)) (Hsub.of_picks inferInstance)
        by_cases k67 : x.k = 6 ∨ x.k = 7
        · have hA : actT s 0 x = handleS s (turnM x 0 (confS s x.a)) := by unfold actT; rw [if_neg k2, if_neg k3, if_neg k4, if_neg k5, if_pos k67]
          have hcf := mconf_ct ok hm1 x.a
          have htc := turned_ct x 0 (confS s x.a)
          have hcc := mhandle_ct ok hm1 (turnM x 0 (confS s x.a))
          rcases k67 with k6 | k7
          · repeat' (first | refine go ?_ | (refine I.ld ?_; refine ld rfl ?_) | refine asg ?_ | (refine I.fa ?_; refine fa ?_) | (refine I.bin ?_; refine cm rfl rfl ?_) | (refine I.cond ?_; first | refine cP ?_ | refine cN ?_) | fail)
            refine W.mixN 8 [true, true, true, true, true, false, false, false, true] [AcBk xb x] Try.mix (by kernel_rfl) ?_
            repeat' (first | refine go ?_ | refine mv ?_ | (refine I.ld ?_; refine ld rfl ?_) | (refine I.fa ?_; refine fa ?_) | refine mU ?_ | refine mA ?_ | (refine I.ld ?_; refine lAN x.enc x.enc rfl ?_) | (refine I.cl ?_; first | refine WX.callQ rfl hcf rfl ?_ | refine WX.callQ rfl htc rfl ?_) | fail)
            refine WX.call rfl hcc rfl ?_
            rintro v _ ⟨h2, ho, rfl, hm2, hs2⟩
            simp only [List.cons_append, List.nil_append]
            repeat' (first | refine go ?_ | refine asg ?_ | refine mN ?_ | refine WX.nil ?_ | refine mU ?_ | fail)
            exact D.atE (handleS s (turnM x 0 (confS s x.a)), v, ho, h2) ⟨hA.symm, hm2, hs2⟩ (by repeat (first | exact Fsub.nil | refine Fsub.cons rfl ?_)) (Hsub.of_picks inferInstance)
          · repeat' (first | refine go ?_ | (refine I.ld ?_; refine ld rfl ?_) | refine asg ?_ | (refine I.fa ?_; refine fa ?_) | (refine I.bin ?_; refine cm rfl rfl ?_) | (refine I.cond ?_; first | refine cP ?_ | refine cN ?_) | fail)
            refine W.mixN 8 [true, true, true, true, true, false, false, false, true] [AcBk xb x] Try.mix (by kernel_rfl) ?_
            repeat' (first | refine go ?_ | refine mv ?_ | (refine I.ld ?_; refine ld rfl ?_) | (refine I.fa ?_; refine fa ?_) | refine mU ?_ | refine mA ?_ | (refine I.ld ?_; refine lAN x.enc x.enc rfl ?_) | (refine I.cl ?_; first | refine WX.callQ rfl hcf rfl ?_ | refine WX.callQ rfl htc rfl ?_) | fail)
            refine WX.call rfl hcc rfl ?_
            rintro v _ ⟨h2, ho, rfl, hm2, hs2⟩
            simp only [List.cons_append, List.nil_append]
            repeat' (first | refine go ?_ | refine asg ?_ | refine mN ?_ | refine WX.nil ?_ | refine mU ?_ | fail)
            exact D.atE (handleS s (turnM x 0 (confS s x.a)), v, ho, h2) ⟨hA.symm, hm2, hs2⟩ (by repeat (first | exact Fsub.nil | refine Fsub.cons rfl ?_)) (Hsub.of_picks inferInstance)
        · have hA : actT s 0 x = (s, []) := by unfold actT; rw [if_neg k2, if_neg k3, if_neg k4, if_neg k5, if_neg k67]
          have k6 : ¬ x.k = 6 := fun h => k67 (.inl h)
          have k7 : ¬ x.k = 7 := fun h => k67 (.inr h)
          repeat' (first | refine go ?_ | (refine I.ld ?_; refine ld rfl ?_) | refine asg ?_ | (refine I.fa ?_; refine fa ?_) | (refine I.bin ?_; refine cm rfl rfl ?_) | (refine I.cond ?_; refine cN ?_) | fail)
          refine D.nilH ?_
          exact D.atE ((s, []), .slice none 0 0, [], h1) ⟨hA.symm, hm1, IsSl.nil _⟩ (by repeat (first | exact Fsub.nil | refine Fsub.cons rfl ?_)) (Hsub.of_picks inferInstance)
      · rintro ⟨⟨s', out⟩, v, ho, h2⟩ ⟨hA, hm2, hs2⟩
        simp only [] at hA hm2 hs2 ⊢
        rw [← hA] at okA slA sdA
        have hol : out.length ≤ 12 := by have := actT_len ok 0 x; rw [← hA] at this; exact this
        have f1 : s'.rn = rn := slA.rn
        have f2 : s'.nn = nn := slA.nn
        have f3 : s'.dc = 0 := slA.dc
        have hr2 := hs2.rs
        obtain ⟨op2, oc2, rfl⟩ := hr2.len
        repeat' (first | refine go ?_ | refine asg ?_ | fail)
        refine W.loop (α := Nat) (fun j => j ≤ out.length) (fun j => [(1, .slice vp acts.length vc), (2, .int .i64 rng), (3, .int .i64 op), (4, .int .i64 tr), (5, .pointer (some ⟨lb, 0, none⟩)), (11, .pointer (some ⟨b, 0, none⟩)), (13, .int .i64 (i : Int)), (14, .slice op2 out.length oc2), (16, .int .i64 (j : Int))])
          (fun _ => [h2, ho, LBk lb a rn nn e, h0, R]) (fun j => out.length - j) 0 (Nat.zero_le _) (by repeat (first | exact Fsub.nil | refine Fsub.cons rfl ?_)) (Hsub.of_picks inferInstance) ?_
        intro j hj
        by_cases hlj : j < out.length
        · obtain ⟨y, hy⟩ : ∃ y, out[j]? = some y := ⟨_, List.getElem?_eq_getElem hlj⟩
          obtain ⟨hup, r, n, g1, g2, g3, g4⟩ := sdA y (List.mem_of_getElem? hy)
          simp only [] at hup g1 g2 g3 g4
          rw [f3] at g4
          have t1 : y.kind = 9 := by rw [g4]; rfl
          have t2 : y.to.k = 1 := by rw [g4]; rfl
          have t3 : y.to.dc = 0 := by rw [g4]; rfl
          have t4 : y.to.nd = (n : Int) := by rw [g4]; rfl
          have t5 : y.to.rg = (r : Int) := by rw [g4]; rfl
          have t6 : confS s' y.to.rg = y.cf := by
            rw [t5]; unfold confS; rw [if_pos ⟨hup, by omega, by omega⟩, g4]; rfl
          have t7 : cellsEq [.i, .i, .i, .i] y.fr.enc [.int .i64 2, .int .i64 0, .int .i64 0, .int .i64 0] = some true := by rw [g4]; rfl
          have hcf := mconf_ct okA hm2 y.to.rg
          rw [t6] at hcf
          clear t6 g4
          have t8 : cellsEq kCfg y.cf.enc y.cf.enc = some true := cells_self rfl
          repeat' (first | refine go ?_ | refine mv ?_ | (refine I.bin ?_; refine cm rfl rfl ?_) | (refine I.cond ?_; refine cP ?_) | (refine I.bi ?_; refine ln rfl (by assumption) ?_) | (refine I.ix ?_; refine ix rfl rfl ?_) | refine al (fun _ => ?_) | (refine I.ld ?_; refine WX.loadEW rfl hr2 hy rfl rfl ?_) | fail)
          rename_i yb
          refine WX.hp (H' := [[(yb, .cells (List.toArray Msg.z.enc) 49 (0, 0))], h2, ho, LBk lb a rn nn e, h0, R]) rfl ?_
          refine I.st ?_
          refine sGW Msg.z.enc y.enc rfl rfl ?_
          repeat' (first | refine go ?_ | fail)
          refine W.quiet Try.mix (by kernel_rfl) ?_
          repeat' (first | refine go ?_ | refine mv ?_ | (refine I.ld ?_; refine ld rfl ?_) | refine asg ?_ | (refine I.gd ?_; first | refine gy ?_ | refine gF ?_) | (refine I.fa ?_; refine fa ?_) | (refine I.bin ?_; first | refine cm rfl rfl ?_ | refine ad ?_) | (refine I.pk ?_; refine pF ?_) | (refine I.cond ?_; refine cF ?_) | (refine I.cl ?_; refine WX.callQ rfl hcf rfl ?_) | (refine I.ld ?_; first | refine lAN (t := 37) y.enc y.cf.enc rfl ?_ | refine lAN (t := 32) y.enc y.fr.enc rfl ?_) | (refine I.bd ?_; refine bdN (t := 32) [.int .i64 2, .int .i64 0, .int .i64 0, .int .i64 0] ?_ (hf' := by exact rfl)) | (refine I.bin ?_; first | refine WX.neqA rfl rfl t8 rfl ?_ | refine WX.neqA rfl rfl t7 rfl ?_) | fail)
          exact D.round (j + 1) (by omega) (by omega) (by repeat (first | exact Fsub.nil | refine Fsub.cons rfl ?_)) (Hsub.of_picks inferInstance)
        · obtain rfl : j = out.length := by omega
          repeat' (first | refine go ?_ | refine mv ?_ | refine asg ?_ | (refine I.bin ?_; first | refine cm rfl rfl ?_ | refine ad ?_) | (refine I.cond ?_; refine cN ?_) | (refine I.bi ?_; refine ln rfl (by assumption) ?_) | fail)
          exact D.round (i + 1, s', h2) ⟨by simp only []; omega, okA, slA, hm2⟩ (by simp only []; omega) (by repeat (first | exact Fsub.nil | refine Fsub.cons rfl ?_)) (Hsub.of_picks inferInstance)
    · obtain rfl : i = acts.length := by omega
      obtain ⟨lk, hlk⟩ : ∃ lk : Msg, lk = { Msg.z with kind := 1, fr := ⟨3, 0, 0, 3⟩, ix := rng, op := op, tr := tr } := ⟨_, rfl⟩
      have hcc := mhandle_ct ok hm1 lk
      repeat' (first | refine go ?_ | refine mv ?_ | (refine I.bin ?_; refine cm rfl rfl ?_) | (refine I.cond ?_; refine cN ?_) | (refine I.bi ?_; refine ln rfl (by assumption) ?_) | refine al (fun _ => ?_) | (refine I.bd ?_; refine bdN (t := 32) [.int .i64 3, .int .i64 0, .int .i64 0, .int .i64 3] ?_ (hf' := by exact rfl)) | fail)
      rename_i wb
      refine WX.hp (H' := [[(wb, .cells (List.toArray Ad4.z.enc) 32 (0, 0))], h1, LBk lb a rn nn e, h0, R]) rfl ?_
      refine I.st ?_
      refine sGW Ad4.z.enc (Ad4.enc ⟨3, 0, 0, 3⟩) rfl rfl ?_
      repeat' (first | refine go ?_ | refine mv ?_ | (refine I.ld ?_; refine lAN (Ad4.enc ⟨3, 0, 0, 3⟩) (Ad4.enc ⟨3, 0, 0, 3⟩) rfl ?_) | (refine I.bd ?_; refine bdN (Msg.enc { Msg.z with kind := 1, fr := ⟨3, 0, 0, 3⟩, ix := rng, op := op, tr := tr }) ?_) | fail)
      rw [hlk] at hcc
      refine WX.call rfl hcc rfl ?_
      rw [← hlk]
      rintro v _ ⟨h2, ho, rfl, hm2, hs2⟩
      have hk1 : lk.kind = 1 := by rw [hlk]
      have hix : lk.ix = rng := by rw [hlk]
      cases hup : s.up with
      | false =>
        have hS : handleS s lk = (s, []) := by unfold handleS; rw [if_pos hup]
        rw [hS] at hm2 hs2
        have hu := mup_ct hm2
        rw [hup] at hu
        have hr2 := hs2.rs
        obtain ⟨p2, c2, rfl⟩ := hr2.len
        simp only [List.cons_append, List.nil_append]
        repeat' (first | refine go ?_ | refine mv ?_ | refine asg ?_ | (refine I.gd ?_; refine gn ?_) | (refine I.bin ?_; refine cm rfl rfl ?_) | (refine I.pk ?_; refine pT ?_) | (refine I.cond ?_; refine cT ?_) | (refine I.bi ?_; refine ln rfl (by assumption) ?_) | (refine I.un ?_; refine nt ?_) | (refine I.cl ?_; refine WX.callQ rfl hu rfl ?_) | fail)
        exact D.fin1 [h0] _ rfl rfl ⟨rfl, rfl⟩
      | true =>
        by_cases hrg : 0 ≤ rng ∧ rng < (rn : Int)
        · have hS : handleS s lk = (s, [foundM s.dc lk (s.ch rng.toNat).cfg]) := by
            unfold handleS
            rw [if_neg (by rw [hup]; decide), if_pos hk1, if_pos (by rw [hix, e1]; exact hrg), hix]
          rw [hS] at hm2 hs2
          have hu := mup_ct hm2
          rw [hup] at hu
          have hcf := mconf_ct ok hm2 rng
          have hce : confS s rng = (s.ch rng.toNat).cfg := by unfold confS; rw [if_pos ⟨hup, by rw [e1]; exact hrg⟩]
          rw [hce] at hcf
          rw [e3] at hs2
          obtain ⟨cc, hcc'⟩ : ∃ cc, (s.ch rng.toNat).cfg = cc := ⟨_, rfl⟩
          rw [hcc'] at hs2 hcf
          obtain ⟨fm, hfm⟩ : ∃ fm : Msg, fm = { Msg.z with kind := 2, fr := ⟨2, 0, 0, 0⟩, to := ⟨3, 0, 0, 3⟩, ix := rng, op := op, tr := tr, cf := cc } := ⟨_, rfl⟩
          rw [show foundM 0 lk cc = fm by rw [hfm, hlk]; rfl] at hs2
          have hr2 := hs2.rs
          obtain ⟨p2, c2, rfl⟩ := hr2.len
          have hx0 : ([fm] : List Msg)[0]? = some fm := rfl
          have t9 : cellsEq kMsg fm.enc fm.enc = some true := cells_self rfl
          simp only [List.cons_append, List.nil_append]
          repeat' (first | refine go ?_ | refine mv ?_ | (refine I.ld ?_; refine ld rfl ?_) | refine asg ?_ | (refine I.gd ?_; first | refine gy ?_ | refine gF ?_) | (refine I.fa ?_; refine fa ?_) | (refine I.bin ?_; refine cm rfl rfl ?_) | (refine I.pk ?_; refine pF ?_) | (refine I.cond ?_; refine cN ?_) | (refine I.un ?_; refine nt ?_) | (refine I.cl ?_; refine WX.callQ rfl hu rfl ?_) | fail)
          refine W.quiet Try.mix (by kernel_rfl) ?_
          repeat' (first | refine mv ?_ | (refine I.gd ?_; refine gy ?_) | (refine I.bin ?_; refine cm rfl rfl ?_) | (refine I.bi ?_; refine ln rfl (by assumption) ?_) | (refine I.ix ?_; refine ix rfl rfl ?_) | (refine I.cl ?_; refine WX.callQ rfl hcf rfl ?_) | (refine I.ld ?_; first | refine WX.loadEW rfl hr2 hx0 rfl rfl ?_ | refine lAN (t := 32) (Ad4.enc ⟨3, 0, 0, 3⟩) (Ad4.enc ⟨3, 0, 0, 3⟩) rfl ?_) | (refine I.bd ?_; first | refine bdN (t := 32) [.int .i64 2, .int .i64 0, .int .i64 0, .int .i64 0] ?_ (hf' := by exact rfl) | refine bdN (Msg.enc { Msg.z with kind := 2, fr := ⟨2, 0, 0, 0⟩, to := ⟨3, 0, 0, 3⟩, ix := rng, op := op, tr := tr, cf := cc }) ?_) | fail)
          rw [← hfm]
          refine I.bin ?_
          refine WX.eqlA rfl rfl t9 rfl ?_
          repeat' (first | refine go ?_ | refine asg ?_ | (refine I.pk ?_; refine pT ?_) | fail)
          exact D.fin1 [h0] _ rfl rfl ⟨rfl, rfl⟩
        · have hS : handleS s lk = (s, []) := by
            unfold handleS
            rw [if_neg (by rw [hup]; decide), if_pos hk1, if_neg (by rw [hix, e1]; exact hrg)]
          rw [hS] at hm2 hs2
          have hu := mup_ct hm2
          rw [hup] at hu
          have hr2 := hs2.rs
          obtain ⟨p2, c2, rfl⟩ := hr2.len
          by_cases hneg : rng < 0
          · simp only [List.cons_append, List.nil_append]
            repeat' (first | refine go ?_ | refine mv ?_ | refine asg ?_ | (refine I.gd ?_; first | refine gy ?_ | refine gn ?_ | refine gT ?_) | (refine I.bin ?_; refine cm rfl rfl ?_) | (refine I.pk ?_; first | refine pT ?_ | refine pF ?_) | (refine I.cond ?_; refine cT ?_) | (refine I.bi ?_; refine ln rfl (by assumption) ?_) | (refine I.un ?_; refine nt ?_) | (refine I.cl ?_; refine WX.callQ rfl hu rfl ?_) | fail)
            exact D.fin1 [h0] _ rfl rfl ⟨rfl, rfl⟩
          · simp only [List.cons_append, List.nil_append]
            repeat' (first | refine go ?_ | refine mv ?_ | (refine I.ld ?_; refine ld rfl ?_) | refine asg ?_ | (refine I.gd ?_; first | refine gy ?_ | refine gF ?_) | (refine I.fa ?_; refine fa ?_) | (refine I.bin ?_; refine cm rfl rfl ?_) | (refine I.pk ?_; refine pF ?_) | (refine I.cond ?_; refine cP ?_) | (refine I.bi ?_; refine ln rfl (by assumption) ?_) | (refine I.un ?_; refine nt ?_) | (refine I.cl ?_; refine WX.callQ rfl hu rfl ?_) | fail)
            exact D.fin1 [h0] _ rfl rfl ⟨rfl, rfl⟩
  · have hbad := mnewBad_ct i1 hok
    repeat' (first | refine go ?_ | refine mv ?_ | refine asg ?_ | (refine I.bin ?_; refine cm rfl rfl ?_) | (refine I.cond ?_; first | refine cF ?_ | refine cN ?_) | (refine I.bi ?_; refine ln rfl (by assumption) ?_) | (refine I.un ?_; refine nt ?_) | refine bx rfl (fun _ => ?_) | (refine I.cl ?_; refine WX.callQ rfl able_ct rfl ?_) | (refine I.ld ?_; refine lAN (LayV a b c e) (LayV a b c e) rfl ?_) | fail)
    refine WX.callQ rfl hbad rfl ?_
    repeat' (first | refine go ?_ | refine mv ?_ | refine asg ?_ | (refine I.bin ?_; first | refine cm rfl rfl ?_ | refine np rfl rfl ?_) | (refine I.cond ?_; refine cT ?_) | refine ex ?_ | fail)
    exact D.fin1 [h0] _ rfl rfl ⟨rfl, rfl⟩
end Go.Proofs.Ytfcefidmdijjkaa
