/-
  Texts of one road, one behind the other.
-/
import Derived.Test.YtihaajncebdioaaGreatQZb
/-
  Texts.
-/
set_option linter.unusedVariables false
set_option linter.unusedSimpArgs false
namespace Go.Proofs.YtihaajncebdioaaGreat
open Go Go.Sl

theorem txt_w {C C' : Cd} {vs vs' : List Value} {o most : Nat} (h : CSt C vs (.txt o most) C' vs') (hr : C.rd = false) (hl : C'.b.length ≤ 1099511627776) :
    ∃ (s : ByteArray) (C1 : Cd), vs[o]? = some (.string s) ∧ vs' = vs ∧ CSt C [.int .i64 (s.size : Int)] (.num 0) C1 [.int .i64 (s.size : Int)] ∧ C' = { C1 with b := C1.b ++ s.data.toList, long := C1.long || decide (most < s.size) } := by
  cases h with
  | @r u u0 e rest hr' hv ok0 ok he hd => rw [hr] at hr'; cases hr'
  | @w u hr' hv ok =>
    obtain ⟨s, rfl⟩ := ok
    have hsl : s.size ≤ 1099511627776 := by
      have e1 : s.data.toList.length = s.size := rfl
      simp only [encI, Option.getD_some, List.length_append, e1] at hl
      omega
    have hw := CSt.w (C := C) (vs := [.int .i64 (s.size : Int)]) (it := .num 0) hr rfl ⟨_, rfl⟩
    have he : encI (.num 0) (.int .i64 (s.size : Int)) = some (encN s.size) := by rw [encI_num, if_neg (by omega)]; rfl
    rw [he] at hw
    refine ⟨s, _, hv, rfl, hw, ?_⟩
    simp only [encI, longI, Option.getD_some, Option.isNone_some, Bool.or_false, List.append_assoc]
    rfl
theorem txt_r {C C' : Cd} {vs vs' : List Value} {o most : Nat} (h : CSt C vs (.txt o most) C' vs') (hr : C.rd = true) (hl : C.b.length ≤ 1099511627776) {s0 : ByteArray} (hv0 : vs[o]? = some (.string s0)) :
    ∃ (s : ByteArray) (C1 : Cd) (rest : List UInt8), vs' = vs.set o (.string s) ∧ CSt C [.int .i64 (s0.size : Int)] (.num 0) C1 [.int .i64 (s.size : Int)] ∧ C1.b.drop C1.p = s.data.toList ++ rest ∧ C1.b = C.b ∧ C1.p ≤ C1.b.length ∧ C' = { C1 with p := C1.p + s.size } := by
  cases h with
  | @w u hr' hv ok => rw [hr] at hr'; cases hr'
  | @r u u0 e rest hr' hv ok0 ok he hd =>
    obtain ⟨s, rfl⟩ := ok
    have he' : e = encN s.size ++ s.data.toList := (Option.some.inj he).symm
    subst he'
    have hsl : s.size ≤ 1099511627776 := by
      have e1 : s.data.toList.length = s.size := rfl
      have := congrArg List.length hd
      rw [List.length_drop, List.length_append, List.length_append, e1] at this
      omega
    have hs : encI (.num 0) (.int .i64 (s.size : Int)) = some (encN s.size) := by rw [encI_num, if_neg (by omega)]; rfl
    rw [List.append_assoc] at hd
    refine ⟨s, _, rest, rfl, CSt.r (C := C) (vs := [.int .i64 (s0.size : Int)]) (it := .num 0) hr rfl ⟨_, rfl⟩ ⟨_, rfl⟩ hs hd, ?_, rfl, ?_, ?_⟩
    · simp only []
      rw [← List.drop_drop, hd, List.drop_left]
    · have := congrArg List.length hd
      rw [List.length_drop, List.length_append] at this
      have := encN_pos s.size
      simp only []
      omega
    · simp only [List.length_append]
      rw [Nat.add_assoc]
      rfl
theorem CSt.txt0 {C C' : Cd} {vs vs' : List Value} {o most : Nat} (h : CSt C vs (.txt o most) C' vs') : ∃ s0 : ByteArray, vs[o]? = some (.string s0) := by
  cases h with
  | w hr' hv ok => obtain ⟨s, rfl⟩ := ok; exact ⟨s, hv⟩
  | r hr' hv ok0 ok he hd => obtain ⟨s, rfl⟩ := ok0; exact ⟨s, hv⟩

theorem text_ct {C C' : Cd} {vs vs' : List Value} {o most : Nat} (hst : CSt C vs (.txt o most) C' vs') {v : Value} {h : Hp} (hok : CdOk C v h) (hl : C'.b.length ≤ 1099511627776) {c b T : Nat} :
    Ct Tryz.prog 99 [.pointer (some ⟨c, 0, none⟩), .pointer (some ⟨b, o, none⟩), .int .i64 (most : Int)] [CBk c C v, [(b, .cells vs.toArray T (0, 0))], h] (CPost c b T C C' v h vs' []) := by
  obtain ⟨s0, hv⟩ := hst.txt0
  have hlt : Nat.blt o vs.length = true := Nat.ble_eq_true_of_le (List.getElem?_eq_some_iff.1 hv).1
  cases hr : C.rd with
  | false =>
    obtain ⟨s, C1, hv', rfl, hn, rfl⟩ := txt_w hst hr hl
    rw [hv] at hv'
    cases hv'
    have hrd := hn.facts.1
    rw [hr] at hrd
    obtain ⟨B, p, rd, bad, arg, long⟩ := C1
    simp only [] at hrd hl ⊢
    subst hrd
    rw [List.length_append] at hl
    refine Ct.mk' Tryz.func99 rfl rfl rfl (fun g R => ?_)
    try simp only [List.cons_append]
    simp only [List.nil_append]
    repeat' (first | refine go ?_ | refine mv ?_ | (refine I.nc ?_; refine nc ?_) | (refine I.bi ?_; refine lS ?_) | (refine I.st ?_; refine st rfl rfl ?_) | refine al (fun _ => ?_) | (refine I.ld ?_; refine WX.load rfl hv rfl ?_) | fail)
    rename_i nb
    refine WX.call rfl (num_ct (c := c) (b := nb) (T := 3) hn hok (by simp only []; omega)) rfl ?_
    rintro _ _ ⟨v1, h1, rfl, ok1, keep1⟩
    simp only [List.cons_append, List.nil_append]
    refine WX.flat (H' := [CBr c v1 p false bad arg long, _, h1, _, _]) rfl ?_
    have hw1 : IsSl 5 B v1 h1 := ok1.w rfl
    have hdm : decide ((most : Int) < (s0.size : Int)) = decide (most < s0.size) := by simp
    generalize hlg : (long || decide (most < s0.size)) = lg
    cases long with
    | true =>
      have : lg = true := hlg.symm
      subst this
      repeat' (first | refine go ?_ | refine mv ?_ | (refine I.ld ?_; refine ld rfl ?_) | (refine I.gd ?_; refine gn ?_) | (refine I.fa ?_; refine fa ?_) | (refine I.nc ?_; refine nc ?_) | (refine I.pk ?_; refine pT ?_) | (refine I.cond ?_; refine cT ?_) | (refine I.st ?_; refine st rfl rfl ?_) | (refine I.un ?_; refine nt ?_) | fail)
      refine W.mix (List.replicate 8 true ++ [false]) [CBr c v1 p false bad arg true, [(b, .cells vs'.toArray T (0, 0))]] Tryz.mix (by kernel_rfl) ?_
      repeat' (first | refine go ?_ | refine mv ?_ | (refine I.ld ?_; refine ld rfl ?_) | (refine I.fa ?_; refine fa ?_) | (refine I.nc ?_; refine nc ?_) | refine mU ?_ | refine mA ?_ | (refine I.ld ?_; refine WX.load rfl hv rfl ?_) | fail)
      refine WX.appS rfl rfl hw1 rfl (by decide) (by omega) rfl (fun v2 h2 hs2 => ?_)
      obtain ⟨p2, n2, c2, rfl⟩ := hs2.sh
      repeat' (first | refine go ?_ | (refine I.fa ?_; refine fa ?_) | (refine I.nc ?_; refine nc ?_) | refine mN ?_ | (refine I.st ?_; refine st rfl rfl ?_) | fail)
      exact D.fin0 _ _ rfl ⟨.slice p2 n2 c2, h2, rfl, ⟨fun e => (by cases e), fun _ => hs2, by rw [List.length_append]; exact hl⟩, fun e => (by rw [hr] at e; cases e)⟩
    | false =>
      have : decide (most < s0.size) = lg := hlg
      repeat' (first | refine go ?_ | refine mv ?_ | (refine I.ld ?_; refine ld rfl ?_) | (refine I.gd ?_; refine gy ?_) | (refine I.fa ?_; refine fa ?_) | (refine I.nc ?_; refine nc ?_) | (refine I.bin ?_; refine cm rfl rfl ?_) | (refine I.pk ?_; refine pF ?_) | (refine I.cond ?_; refine cT ?_) | (refine I.st ?_; refine st rfl rfl ?_) | (refine I.un ?_; refine nt ?_) | fail)
      rw [hdm, this]
      refine W.mix (List.replicate 8 true ++ [false]) [CBr c v1 p false bad arg lg, [(b, .cells vs'.toArray T (0, 0))]] Tryz.mix (by kernel_rfl) ?_
      repeat' (first | refine go ?_ | refine mv ?_ | (refine I.ld ?_; refine ld rfl ?_) | (refine I.fa ?_; refine fa ?_) | (refine I.nc ?_; refine nc ?_) | refine mU ?_ | refine mA ?_ | (refine I.ld ?_; refine WX.load rfl hv rfl ?_) | fail)
      refine WX.appS rfl rfl hw1 rfl (by decide) (by omega) rfl (fun v2 h2 hs2 => ?_)
      obtain ⟨p2, n2, c2, rfl⟩ := hs2.sh
      repeat' (first | refine go ?_ | (refine I.fa ?_; refine fa ?_) | (refine I.nc ?_; refine nc ?_) | refine mN ?_ | (refine I.st ?_; refine st rfl rfl ?_) | fail)
      exact D.fin0 _ _ rfl ⟨.slice p2 n2 c2, h2, rfl, ⟨fun e => (by cases e), fun _ => hs2, by rw [List.length_append]; exact hl⟩, fun e => (by rw [hr] at e; cases e)⟩
  | true =>
    obtain ⟨s, C1, rest, rfl, hn, hd, hb1, hps, rfl⟩ := txt_r hst hr hok.l hv
    have hrd := hn.facts.1
    rw [hr] at hrd
    obtain ⟨B, p, rd, bad, arg, long⟩ := C1
    simp only [] at hrd hl hd hb1 hps ⊢
    subst hrd
    refine Ct.mk' Tryz.func99 rfl rfl rfl (fun g R => ?_)
    try simp only [List.cons_append]
    simp only [List.nil_append]
    repeat' (first | refine go ?_ | refine mv ?_ | (refine I.nc ?_; refine nc ?_) | (refine I.bi ?_; refine lS ?_) | (refine I.st ?_; refine st rfl rfl ?_) | refine al (fun _ => ?_) | (refine I.ld ?_; refine WX.load rfl hv rfl ?_) | fail)
    rename_i nb
    refine WX.call rfl (num_ct (c := c) (b := nb) (T := 3) hn hok hl) rfl ?_
    rintro _ _ ⟨v1, h1, rfl, ok1, keep1⟩
    simp only [List.cons_append, List.nil_append]
    refine WX.flat (H' := [CBr c v1 p true bad arg long, _, h1, _, _]) rfl ?_
    have hr1 : Rs B v1 h1 := ok1.r rfl
    obtain ⟨p1, l1, c1, rfl⟩ : ∃ p l c, v1 = .slice p l c := by obtain ⟨p, c, e⟩ := hr1.len; exact ⟨_, _, _, e⟩
    have hle := congrArg List.length hd
    have e1 : s.data.toList.length = s.size := rfl
    rw [List.length_drop, List.length_append, e1] at hle
    have hcap : B.length ≤ c1 := by obtain ⟨a, cc, e, le, _⟩ := id hr1; cases e; exact le
    have hrc : Rs s.data.toList (slCut (.slice p1 l1 c1) 1 p (p + s.size) c1) h1 := by
      have := hr1.cut (m := 1) (lo := p) (hi := p + s.size) (mx := c1) rfl (by omega) (by omega) (by omega)
      rw [hd, show p + s.size - p = s.data.toList.length from by rw [e1]; omega, List.take_left] at this
      exact this
    repeat' (first | refine go ?_ | refine mv ?_ | (refine I.ld ?_; refine ld rfl ?_) | (refine I.fa ?_; refine fa ?_) | (refine I.nc ?_; refine nc ?_) | (refine I.cond ?_; refine cF ?_) | (refine I.un ?_; refine nt ?_) | fail)
    refine W.quiet Tryz.mix (by kernel_rfl) ?_
    repeat' (first | refine go ?_ | refine mv ?_ | (refine I.ld ?_; refine ld rfl ?_) | (refine I.fa ?_; refine fa ?_) | (refine I.nc ?_; refine nc ?_) | (refine I.bin ?_; first | refine cm rfl rfl ?_ | refine su ?_) | (refine I.cond ?_; refine cN ?_) | (refine I.bi ?_; refine ln rfl (by assumption) ?_) | fail)
    refine W.mix (List.replicate 17 true) [CBr c (.slice p1 l1 c1) p true bad arg long, [(nb, .cells (List.toArray [.int .i64 (s.size : Int)]) 3 (0, 0))], h1] Tryz.mix (by kernel_rfl) ?_
    repeat' (first | refine go ?_ | refine mv ?_ | (refine I.ld ?_; refine ld rfl ?_) | (refine I.fa ?_; refine fa ?_) | (refine I.nc ?_; refine nc ?_) | (refine I.bin ?_; refine ad ?_) | refine mU ?_ | fail)
    refine WX.as 70 (.int .i64 ((p + s.size : Nat) : Int)) rfl rfl ?_
    refine WX.cut2 (lo := p) (hi := p + s.size) rfl rfl rfl (by omega) (by omega) rfl ?_
    repeat' (first | refine go ?_ | (refine I.nc ?_; refine nc ?_) | refine mN ?_ | refine mU ?_ | refine cv rfl (by assumption) ?_ | (refine I.st ?_; refine WX.store rfl rfl rfl hlt ?_) | fail)
    rw [strOf_data]
    refine W.mix (List.replicate 6 true) [CBr c (.slice p1 l1 c1) p true bad arg long, [(nb, .cells (List.toArray [.int .i64 (s.size : Int)]) 3 (0, 0))]] Tryz.mix (by kernel_rfl) ?_
    repeat' (first | refine go ?_ | refine mv ?_ | (refine I.ld ?_; refine ld rfl ?_) | (refine I.fa ?_; refine fa ?_) | (refine I.nc ?_; refine nc ?_) | (refine I.bin ?_; refine ad ?_) | refine mN ?_ | refine mU ?_ | (refine I.st ?_; refine st rfl rfl ?_) | fail)
    rw [show ((p : Int) + (s.size : Int)) = ((p + s.size : Nat) : Int) from rfl]
    exact D.finE _ _ rfl ⟨.slice p1 l1 c1, h1, rfl, ⟨fun _ => hr1, fun e => (by cases e), hl⟩, keep1⟩
end Go.Proofs.YtihaajncebdioaaGreat

/-
  Members, vectors.
-/
set_option linter.unusedVariables false
set_option linter.unusedSimpArgs false
namespace Go.Proofs.YtihaajncebdioaaGreat
open Go Go.Sl

theorem member_ct {C C' : Cd} {vs vs' : List Value} {o : Nat} (hrun : CRun C vs [.num o, .num (o + 1)] C' vs') {v : Value} {h : Hp} (hok : CdOk C v h) (hl : C'.b.length ≤ 1099511627776) {c b T : Nat} :
    Ct Tryz.prog 102 [.pointer (some ⟨c, 0, none⟩), .pointer (some ⟨b, o, none⟩)] [CBk c C v, [(b, .cells vs.toArray T (0, 0))], h] (CPost c b T C C' v h vs' []) := by
  refine Ct.mk' Tryz.func102 rfl rfl rfl (fun g R => ?_)
  try simp only [List.cons_append]
  simp only [List.nil_append]
  skip
  refine W.mix (List.replicate 7 true ++ [false, false]) ([] : HH) Tryz.mix (by kernel_rfl) ?_
  repeat' (first | refine go ?_ | refine mv ?_ | (refine I.fa ?_; refine fa ?_) | (refine I.nc ?_; refine nc ?_) | refine mU ?_ | refine mA ?_ | fail)
  refine I.bs ?_
  refine WX.lit (ys := [(⟨b, o⟩ : Pv), ⟨b, o + 1⟩]) rfl rfl rfl rfl rfl rfl (by decide) rfl (fun v1 h1 hs1 => ?_)
  repeat' (first | refine go ?_ | refine mA ?_ | fail)
  refine WX.call rfl (numbers_ct (c := c) (b := b) (T := T) (os := [o, o + 1]) hrun hok hl hs1.rs (by simp)) rfl ?_
  rintro _ _ ⟨v2, h2, rfl, ok2, keep2⟩
  simp only [List.cons_append, List.nil_append]
  repeat' (first | refine go ?_ | refine mN ?_ | refine WX.nil ?_ | fail)
  exact D.finE _ _ rfl ⟨v2, h2, rfl, ok2, keep2⟩

def itsV (o : Nat) : List It := (List.range 9).map fun i => .num (o + i)
theorem itsV_drop {o k r : Nat} (hk : k < 3) (hr : r < 3) : (itsV o).drop (k * 3 + r) = .num (o + k * 3 + r) :: (itsV o).drop (k * 3 + (r + 1)) := by
  have : k * 3 + r < (itsV o).length := by simp [itsV]; omega
  rw [List.drop_eq_getElem_cons this]
  simp [itsV, Nat.add_assoc]
theorem vector_ct {C C' : Cd} {vs vs' : List Value} {o : Nat} (hrun : CRun C vs (itsV o) C' vs') {v : Value} {h : Hp} (hok : CdOk C v h) (hl : C'.b.length ≤ 1099511627776) {c b T : Nat} :
    Ct Tryz.prog 101 [.pointer (some ⟨c, 0, none⟩), .pointer (some ⟨b, o, none⟩)] [CBk c C v, [(b, .cells vs.toArray T (0, 0))], h] (CPost c b T C C' v h vs' []) := by
  refine Ct.mk' Tryz.func101 rfl rfl rfl (fun g R => ?_)
  try simp only [List.cons_append]
  simp only [List.nil_append]
  repeat' (first | refine go ?_ | refine mv ?_ | fail)
  refine W.loop (α := Nat × Cd × List Value × Value × Hp) (fun x => x.1 ≤ 3 ∧ CRun x.2.1 x.2.2.1 ((itsV o).drop (x.1 * 3 + 0)) C' vs' ∧ CdOk x.2.1 x.2.2.2.1 x.2.2.2.2 ∧ x.2.1.rd = C.rd ∧ (C.rd = true → x.2.2.2.1 = v ∧ x.2.2.2.2 = h))
    (fun x => [(0, .pointer (some ⟨c, 0, none⟩)), (1, .pointer (some ⟨b, o, none⟩)), (6, .int .i64 (x.1 : Int))])
    (fun x => [CBk c x.2.1 x.2.2.2.1, [(b, .cells x.2.2.1.toArray T (0, 0))], x.2.2.2.2, R]) (fun x => 3 - x.1) (0, C, vs, v, h) ⟨Nat.zero_le _, hrun, hok, rfl, fun _ => ⟨rfl, rfl⟩⟩ (by repeat (first | exact Fsub.nil | refine Fsub.cons rfl ?_)) (Hsub.of_picks inferInstance) ?_
  rintro ⟨k, Dk, ws, y, hy⟩ ⟨hk, hr, ok, hrd, hkeep⟩
  simp only [] at hk hr ok hrd hkeep ⊢
  by_cases hlt : k < 3
  · repeat' (first | refine go ?_ | refine mv ?_ | refine asg ?_ | (refine I.bin ?_; refine cm rfl rfl ?_) | (refine I.cond ?_; refine cP ?_) | fail)
    refine W.loop (α := Nat × Cd × List Value × Value × Hp) (fun x => x.1 ≤ 3 ∧ CRun x.2.1 x.2.2.1 ((itsV o).drop (k * 3 + x.1)) C' vs' ∧ CdOk x.2.1 x.2.2.2.1 x.2.2.2.2 ∧ x.2.1.rd = C.rd ∧ (C.rd = true → x.2.2.2.1 = v ∧ x.2.2.2.2 = h))
      (fun x => [(0, .pointer (some ⟨c, 0, none⟩)), (1, .pointer (some ⟨b, o, none⟩)), (4, .int .i64 (k : Int)), (6, .int .i64 (k : Int)), (9, .int .i64 (x.1 : Int))])
      (fun x => [CBk c x.2.1 x.2.2.2.1, [(b, .cells x.2.2.1.toArray T (0, 0))], x.2.2.2.2, R]) (fun x => 3 - x.1) (0, Dk, ws, y, hy) ⟨Nat.zero_le _, hr, ok, hrd, hkeep⟩ (by repeat (first | exact Fsub.nil | refine Fsub.cons rfl ?_)) (Hsub.of_picks inferInstance) ?_
    rintro ⟨r, Dr, wr, yr, hyr⟩ ⟨hr3, hrr, okr, hrdr, hkeepr⟩
    simp only [] at hr3 hrr okr hrdr hkeepr ⊢
    by_cases hrl : r < 3
    · rw [itsV_drop hlt hrl] at hrr
      cases hrr with
      | @cons _ D1 _ _ ws1 _ _ _ hst ht =>
        repeat' (first | refine go ?_ | refine mv ?_ | refine asg ?_ | (refine I.nc ?_; refine nc ?_) | (refine I.bin ?_; refine cm rfl rfl ?_) | (refine I.cond ?_; refine cP ?_) | (refine I.ix ?_; refine iP ?_) | fail)
        refine WX.as 18 (.pointer (some ⟨b, o + k * 3 + r, none⟩)) rfl (by rw [Int.toNat_natCast, Int.toNat_natCast, Nat.mul_one]) ?_
        refine WX.call rfl (num_ct (c := c) (b := b) (T := T) hst okr (Nat.le_trans ht.facts.2.1 hl)) rfl ?_
        rintro _ _ ⟨y', hy', rfl, ok', hk'⟩
        simp only [List.cons_append, List.nil_append]
        repeat' (first | refine go ?_ | refine mv ?_ | (refine I.bin ?_; refine ad ?_) | fail)
        exact D.round (r + 1, D1, ws1, y', hy') ⟨by omega, ht, ok', hst.facts.1.trans hrdr, fun e => by
          obtain ⟨e1, e2⟩ := hk' (hrdr.trans e)
          obtain ⟨e3, e4⟩ := hkeepr e
          exact ⟨e1.trans e3, e2.trans e4⟩⟩ (by simp only []; omega) (by repeat (first | exact Fsub.nil | refine Fsub.cons rfl ?_)) (Hsub.of_picks inferInstance)
    · obtain rfl : r = 3 := by omega
      repeat' (first | refine go ?_ | refine mv ?_ | (refine I.bin ?_; first | refine cm rfl rfl ?_ | refine ad ?_) | (refine I.cond ?_; refine cF ?_) | fail)
      exact D.round (k + 1, Dr, wr, yr, hyr) ⟨by omega, by rw [show (k + 1) * 3 + 0 = k * 3 + 3 from by omega]; exact hrr, okr, hrdr, hkeepr⟩ (by simp only []; omega) (by repeat (first | exact Fsub.nil | refine Fsub.cons rfl ?_)) (Hsub.of_picks inferInstance)
  · obtain rfl : k = 3 := by omega
    have hz : (itsV o).drop (3 * 3 + 0) = [] := rfl
    rw [hz] at hr
    cases hr
    repeat' (first | refine go ?_ | (refine I.bin ?_; refine cm rfl rfl ?_) | (refine I.cond ?_; refine cF ?_) | fail)
    exact D.finE _ _ rfl ⟨y, hy, rfl, ok, hkeep⟩
end Go.Proofs.YtihaajncebdioaaGreat

/-
  Chains and writes.
-/
set_option linter.unusedVariables false
set_option linter.unusedSimpArgs false
namespace Go.Proofs.YtihaajncebdioaaGreat
open Go Go.Sl

theorem keep_trans {C C1 : Cd} {v v1 v2 : Value} {h h1 h2 : Hp} (e : C1.rd = C.rd) (k1 : C.rd = true → v1 = v ∧ h1 = h) (k2 : C1.rd = true → v2 = v1 ∧ h2 = h1) : C.rd = true → v2 = v ∧ h2 = h := fun hr => by
  obtain ⟨a1, a2⟩ := k1 hr
  obtain ⟨b1, b2⟩ := k2 (e.trans hr)
  exact ⟨b1.trans a1, b2.trans a2⟩
def itsM (o : Nat) : List It := (List.range 8).map fun i => .num (o + i)
theorem itsM_drop {o k : Nat} (hk : k < 4) : (itsM o).drop (k * 2) = [.num (o + k * 2), .num (o + k * 2 + 1)] ++ (itsM o).drop ((k + 1) * 2) := by
  have h1 : k * 2 < (itsM o).length := by simp [itsM]; omega
  have h2 : k * 2 + 1 < (itsM o).length := by simp [itsM]; omega
  rw [List.drop_eq_getElem_cons h1, List.drop_eq_getElem_cons h2, show (k + 1) * 2 = k * 2 + 1 + 1 from by omega]
  simp [itsM, Nat.add_assoc]
def itsC (o : Nat) : List It := [.num o, .num (o + 1)] ++ (itsM (o + 2) ++ ([.tru (o + 10)] ++ [.num (o + 11), .num (o + 12)]))
theorem CRun.one {C C' : Cd} {vs vs' : List Value} {it : It} (h : CRun C vs [it] C' vs') : CSt C vs it C' vs' := by
  cases h with
  | cons h t => cases t; exact h

set_option maxHeartbeats 1000000 in
theorem chain_ct {C C' : Cd} {vs vs' : List Value} {o : Nat} (hrun : CRun C vs (itsC o) C' vs') {v : Value} {h : Hp} (hok : CdOk C v h) (hl : C'.b.length ≤ 1099511627776) {c b T : Nat} :
    Ct Tryz.prog 72 [.pointer (some ⟨c, 0, none⟩), .pointer (some ⟨b, o, none⟩)] [CBk c C v, [(b, .cells vs.toArray T (0, 0))], h] (CPost c b T C C' v h vs' []) := by
  obtain ⟨C1, vs1, r1, hrun⟩ := hrun.split
  obtain ⟨C2, vs2, r2, hrun⟩ := hrun.split
  obtain ⟨C3, vs3, r3, r4⟩ := hrun.split
  have l1 := r4.facts.2.1
  have l2 := Nat.le_trans r3.facts.2.1 l1
  have l3 := Nat.le_trans r2.facts.2.1 l2
  refine Ct.mk' Tryz.func72 rfl rfl rfl (fun g R => ?_)
  try simp only [List.cons_append]
  simp only [List.nil_append]
  repeat' (first | refine go ?_ | fail)
  refine W.mix (List.replicate 7 true ++ [false, false]) ([] : HH) Tryz.mix (by kernel_rfl) ?_
  repeat' (first | refine go ?_ | refine mv ?_ | (refine I.fa ?_; refine fa ?_) | (refine I.nc ?_; refine nc ?_) | refine mU ?_ | refine mA ?_ | fail)
  refine I.bs ?_
  refine WX.lit (ys := [(⟨b, o⟩ : Pv), ⟨b, o + 1⟩]) rfl rfl rfl rfl rfl rfl (by decide) rfl (fun v1 h1 hs1 => ?_)
  repeat' (first | refine go ?_ | refine mA ?_ | fail)
  refine WX.call rfl (numbers_ct (c := c) (b := b) (T := T) (os := [o, o + 1]) r1 hok (Nat.le_trans l3 hl) hs1.rs (by simp)) rfl ?_
  rintro _ _ ⟨v2, h2, rfl, ok2, keep2⟩
  simp only [List.cons_append, List.nil_append]
  repeat' (first | refine go ?_ | refine mv ?_ | refine mN ?_ | refine WX.nil ?_ | fail)
  refine W.loop (α := Nat × Cd × List Value × Value × Hp) (fun x => x.1 ≤ 4 ∧ CRun x.2.1 x.2.2.1 ((itsM (o + 2)).drop (x.1 * 2)) C2 vs2 ∧ CdOk x.2.1 x.2.2.2.1 x.2.2.2.2 ∧ x.2.1.rd = C.rd ∧ (C.rd = true → x.2.2.2.1 = v ∧ x.2.2.2.2 = h))
    (fun x => [(0, .pointer (some ⟨c, 0, none⟩)), (1, .pointer (some ⟨b, o, none⟩)), (14, .int .i64 (x.1 : Int))])
    (fun x => [CBk c x.2.1 x.2.2.2.1, [(b, .cells x.2.2.1.toArray T (0, 0))], x.2.2.2.2, R]) (fun x => 4 - x.1) (0, C1, vs1, v2, h2) ⟨Nat.zero_le _, r2, ok2, r1.facts.1, keep2⟩ (by repeat (first | exact Fsub.nil | refine Fsub.cons rfl ?_)) (Hsub.of_picks inferInstance) ?_
  rintro ⟨k, Dk, ws, y, hy⟩ ⟨hk, hr, ok, hrd, hkeep⟩
  simp only [] at hk hr ok hrd hkeep ⊢
  by_cases hlt : k < 4
  · rw [itsM_drop hlt] at hr
    obtain ⟨D1, ws1, q1, q2⟩ := hr.split
    repeat' (first | refine go ?_ | refine mv ?_ | refine asg ?_ | (refine I.fa ?_; refine fa ?_) | (refine I.nc ?_; refine nc ?_) | (refine I.bin ?_; refine cm rfl rfl ?_) | (refine I.cond ?_; refine cP ?_) | (refine I.ix ?_; refine iP ?_) | fail)
    refine WX.as 22 (.pointer (some ⟨b, o + 2 + k * 2, none⟩)) rfl (by rw [Int.toNat_natCast]) ?_
    refine WX.call rfl (member_ct (c := c) (b := b) (T := T) q1 ok (Nat.le_trans q2.facts.2.1 (Nat.le_trans l2 hl))) rfl ?_
    rintro _ _ ⟨y', hy', rfl, ok', hk'⟩
    simp only [List.cons_append, List.nil_append]
    repeat' (first | refine go ?_ | refine mv ?_ | (refine I.bin ?_; refine ad ?_) | fail)
    exact D.round (k + 1, D1, ws1, y', hy') ⟨by omega, q2, ok', q1.facts.1.trans hrd, keep_trans hrd hkeep hk'⟩ (by simp only []; omega) (by repeat (first | exact Fsub.nil | refine Fsub.cons rfl ?_)) (Hsub.of_picks inferInstance)
  · obtain rfl : k = 4 := by omega
    have hz : (itsM (o + 2)).drop (4 * 2) = [] := rfl
    rw [hz] at hr
    cases hr
    repeat' (first | refine go ?_ | refine mv ?_ | (refine I.fa ?_; refine fa ?_) | (refine I.nc ?_; refine nc ?_) | (refine I.bin ?_; refine cm rfl rfl ?_) | (refine I.cond ?_; refine cF ?_) | fail)
    refine WX.call rfl (truth_ct (c := c) (b := b) (T := T) r3.one ok (Nat.le_trans l1 hl)) rfl ?_
    rintro _ _ ⟨v3, h3, rfl, ok3, keep3⟩
    simp only [List.cons_append, List.nil_append]
    repeat' (first | refine go ?_ | refine mv ?_ | (refine I.fa ?_; refine fa ?_) | (refine I.nc ?_; refine nc ?_) | fail)
    refine WX.call rfl (member_ct (c := c) (b := b) (T := T) (o := o + 11) r4 ok3 hl) rfl ?_
    rintro _ _ ⟨v4, h4, rfl, ok4, keep4⟩
    simp only [List.cons_append, List.nil_append]
    repeat' (first | refine go ?_ | fail)
    exact D.finE _ _ rfl ⟨v4, h4, rfl, ok4, keep_trans (r3.facts.1.trans hrd) (keep_trans hrd hkeep keep3) keep4⟩
end Go.Proofs.YtihaajncebdioaaGreat

/-
  Writes.
-/
set_option linter.unusedVariables false
set_option linter.unusedSimpArgs false
namespace Go.Proofs.YtihaajncebdioaaGreat
open Go Go.Sl

def itsW (o : Nat) : List It := [.num o, .num (o + 1), .num (o + 2), .num (o + 3), .num (o + 4), .num (o + 5)] ++ ([.txt (o + 6) 16] ++ ([.txt (o + 7) 32] ++ ([.tru (o + 8)] ++ (itsV (o + 9) ++ [.num (o + 18), .num (o + 19)]))))

set_option maxHeartbeats 1000000 in
theorem write_ct {C C' : Cd} {vs vs' : List Value} {o : Nat} (hrun : CRun C vs (itsW o) C' vs') {v : Value} {h : Hp} (hok : CdOk C v h) (hl : C'.b.length ≤ 1099511627776) {c b T : Nat} :
    Ct Tryz.prog 71 [.pointer (some ⟨c, 0, none⟩), .pointer (some ⟨b, o, none⟩)] [CBk c C v, [(b, .cells vs.toArray T (0, 0))], h] (CPost c b T C C' v h vs' []) := by
  obtain ⟨C1, vs1, r1, hrun⟩ := hrun.split
  obtain ⟨C2, vs2, r2, hrun⟩ := hrun.split
  obtain ⟨C3, vs3, r3, hrun⟩ := hrun.split
  obtain ⟨C4, vs4, r4, hrun⟩ := hrun.split
  obtain ⟨C5, vs5, r5, r6⟩ := hrun.split
  have l5 := Nat.le_trans r6.facts.2.1 hl
  have l4 := Nat.le_trans r5.facts.2.1 l5
  have l3 := Nat.le_trans r4.facts.2.1 l4
  have l2 := Nat.le_trans r3.facts.2.1 l3
  have l1 := Nat.le_trans r2.facts.2.1 l2
  refine Ct.mk' Tryz.func71 rfl rfl rfl (fun g R => ?_)
  try simp only [List.cons_append]
  simp only [List.nil_append]
  repeat' (first | refine go ?_ | fail)
  refine W.mix (List.replicate 25 true ++ [false, false]) ([] : HH) Tryz.mix (by kernel_rfl) ?_
  repeat' (first | refine go ?_ | refine mv ?_ | (refine I.fa ?_; refine fa ?_) | (refine I.nc ?_; refine nc ?_) | refine mU ?_ | refine mA ?_ | fail)
  refine I.bs ?_
  refine WX.lit (ys := [(⟨b, o⟩ : Pv), ⟨b, o + 1⟩, ⟨b, o + 2⟩, ⟨b, o + 3⟩, ⟨b, o + 4⟩, ⟨b, o + 5⟩]) rfl rfl rfl rfl rfl rfl (by decide) rfl (fun v1 h1 hs1 => ?_)
  repeat' (first | refine go ?_ | refine mA ?_ | fail)
  refine WX.call rfl (numbers_ct (c := c) (b := b) (T := T) (os := [o, o + 1, o + 2, o + 3, o + 4, o + 5]) r1 hok l1 hs1.rs (by simp)) rfl ?_
  rintro _ _ ⟨v2, h2, rfl, ok2, keep2⟩
  simp only [List.cons_append, List.nil_append]
  repeat' (first | refine go ?_ | refine mv ?_ | (refine I.fa ?_; refine fa ?_) | (refine I.nc ?_; refine nc ?_) | refine mN ?_ | refine WX.nil ?_ | fail)
  refine WX.call rfl (text_ct (c := c) (b := b) (T := T) (o := o + 6) (most := 16) r2.one ok2 l2) rfl ?_
  rintro _ _ ⟨v3, h3, rfl, ok3, keep3⟩
  simp only [List.cons_append, List.nil_append]
  repeat' (first | refine go ?_ | refine mv ?_ | (refine I.fa ?_; refine fa ?_) | (refine I.nc ?_; refine nc ?_) | fail)
  refine WX.call rfl (text_ct (c := c) (b := b) (T := T) (o := o + 7) (most := 32) r3.one ok3 l3) rfl ?_
  rintro _ _ ⟨v4, h4, rfl, ok4, keep4⟩
  simp only [List.cons_append, List.nil_append]
  repeat' (first | refine go ?_ | refine mv ?_ | (refine I.fa ?_; refine fa ?_) | (refine I.nc ?_; refine nc ?_) | fail)
  refine WX.call rfl (truth_ct (c := c) (b := b) (T := T) (o := o + 8) r4.one ok4 l4) rfl ?_
  rintro _ _ ⟨v5, h5, rfl, ok5, keep5⟩
  simp only [List.cons_append, List.nil_append]
  repeat' (first | refine go ?_ | refine mv ?_ | (refine I.fa ?_; refine fa ?_) | (refine I.nc ?_; refine nc ?_) | fail)
  refine WX.call rfl (vector_ct (c := c) (b := b) (T := T) (o := o + 9) r5 ok5 l5) rfl ?_
  rintro _ _ ⟨v6, h6, rfl, ok6, keep6⟩
  simp only [List.cons_append, List.nil_append]
  repeat' (first | refine go ?_ | fail)
  refine W.mix (List.replicate 7 true ++ [false, false]) ([] : HH) Tryz.mix (by kernel_rfl) ?_
  repeat' (first | refine go ?_ | refine mv ?_ | (refine I.fa ?_; refine fa ?_) | (refine I.nc ?_; refine nc ?_) | refine mU ?_ | refine mA ?_ | fail)
  refine I.bs ?_
  refine WX.lit (ys := [(⟨b, o + 18⟩ : Pv), ⟨b, o + 19⟩]) rfl rfl rfl rfl rfl rfl (by decide) rfl (fun v7 h7 hs7 => ?_)
  repeat' (first | refine go ?_ | refine mA ?_ | fail)
  refine WX.call rfl (numbers_ct (c := c) (b := b) (T := T) (os := [o + 18, o + 19]) r6 ok6 hl hs7.rs (by simp)) rfl ?_
  rintro _ _ ⟨v8, h8, rfl, ok8, keep8⟩
  simp only [List.cons_append, List.nil_append]
  repeat' (first | refine go ?_ | refine mN ?_ | refine WX.nil ?_ | fail)
  have e2 := r1.facts.1
  have e3 := r2.facts.1.trans e2
  have e4 := r3.facts.1.trans e3
  have e5 := r4.facts.1.trans e4
  have e6 := r5.facts.1.trans e5
  exact D.finE _ _ rfl ⟨v8, h8, rfl, ok8, keep_trans e6 (keep_trans e5 (keep_trans e4 (keep_trans e3 (keep_trans e2 keep2 keep3) keep4) keep5) keep6) keep8⟩
end Go.Proofs.YtihaajncebdioaaGreat

/-
  Frames.
-/
set_option linter.unusedVariables false
set_option linter.unusedSimpArgs false
namespace Go.Proofs.YtihaajncebdioaaGreat
open Go Go.Sl

def be32 (s : Nat) : List UInt8 := [UInt8.ofNat (s / 2 ^ 24), UInt8.ofNat (s / 2 ^ 16), UInt8.ofNat (s / 2 ^ 8), UInt8.ofNat s]
def frame (B : List UInt8) : List UInt8 := [UInt8.ofNat (B.length / 2 ^ 8), UInt8.ofNat B.length] ++ B ++ be32 (crcS B)
def frRes (C : Cd) : List UInt8 × Int := if C.arg = true then ([], 1) else if C.long = true then ([], 42) else (frame C.b, 0)
theorem u8_wrap (n : Nat) : IntKind.u8.wrap (n : Int) = ((UInt8.ofNat n).toNat : Int) := by
  rw [IntKind.wrap_u8', UInt8.toNat_ofNat']
  omega

set_option maxHeartbeats 1000000 in
theorem framed_ct {C : Cd} {v : Value} {h : Hp} (hs : IsSl 5 C.b v h) (hl : C.b.length ≤ 1099511627776) {c : Nat} :
    Ct Tryz.prog 56 [.pointer (some ⟨c, 0, none⟩)] [CBk c C v, h] (fun r H' => ∃ u hb, r = .tuple #[u, .int .i64 (frRes C).2] ∧ H' = [CBk c C v, h, hb] ∧ IsSl 5 (frRes C).1 u hb) := by
  obtain ⟨B, p, rd, bad, arg, long⟩ := C
  simp only [] at hs hl
  have hr := hs.rs
  refine Ct.pack (pre := [CBr c v p rd bad arg long, h]) (post := fun r H' => ∃ u hb, r = .tuple #[u, .int .i64 (frRes ⟨B, p, rd, bad, arg, long⟩).2] ∧ H' = [CBr c v p rd bad arg long, h, hb] ∧ IsSl 5 (frRes ⟨B, p, rd, bad, arg, long⟩).1 u hb) ?_ rfl (fun r H' e => ⟨_, rfl, e⟩)
  refine Ct.mk' Tryz.func56 rfl rfl rfl (fun g R => ?_)
  try simp only [List.cons_append]
  simp only [List.nil_append]
  cases arg with
  | true =>
    repeat' (first | refine go ?_ | refine mv ?_ | (refine I.ld ?_; refine ld rfl ?_) | refine asg ?_ | (refine I.fa ?_; refine fa ?_) | (refine I.nc ?_; refine nc ?_) | (refine I.cond ?_; refine cT ?_) | fail)
    exact D.fin2 [CBr c v p rd bad true long, h, []] _ rfl rfl rfl ⟨_, _, rfl, rfl, IsSl.nil _⟩
  | false =>
  cases long with
  | true =>
    repeat' (first | refine go ?_ | refine mv ?_ | (refine I.ld ?_; refine ld rfl ?_) | refine asg ?_ | (refine I.fa ?_; refine fa ?_) | (refine I.nc ?_; refine nc ?_) | (refine I.cond ?_; first | refine cT ?_ | refine cF ?_) | fail)
    exact D.fin2 [CBr c v p rd bad false true, h, []] _ rfl rfl rfl ⟨_, _, rfl, rfl, IsSl.nil _⟩
  | false =>
    obtain ⟨p1, l1, c1, rfl⟩ := hs.sh
    repeat' (first | refine go ?_ | refine mv ?_ | (refine I.ld ?_; refine ld rfl ?_) | refine asg ?_ | (refine I.fa ?_; refine fa ?_) | (refine I.nc ?_; refine nc ?_) | (refine I.cond ?_; refine cF ?_) | fail)
    refine W.mix (List.replicate 9 true ++ [false, false, true]) [CBr c (.slice p1 l1 c1) p rd bad false false, h] Tryz.mix (by kernel_rfl) ?_
    repeat' (first | refine go ?_ | refine mv ?_ | (refine I.ld ?_; refine ld rfl ?_) | (refine I.fa ?_; refine fa ?_) | (refine I.nc ?_; refine nc ?_) | refine mU ?_ | refine mA ?_ | (refine I.bi ?_; refine ln rfl (by assumption) ?_) | fail)
    refine I.bs ?_
    refine WX.lit (ys := [(⟨p1, l1, c1⟩ : Sv)]) rfl rfl rfl rfl rfl rfl (by decide) rfl (fun v1 h1 hs1 => ?_)
    repeat' (first | refine go ?_ | refine mA ?_ | fail)
    refine WX.callQ rfl (sum_ct hs1.rs hr hl) rfl ?_
    repeat' (first | refine go ?_ | refine mv ?_ | refine asg ?_ | refine mN ?_ | refine mU ?_ | (refine I.bin ?_; refine WX.shrN (m := 8) rfl rfl (by decide) rfl ?_) | refine WX.convW rfl rfl ?_ | fail)
    refine WX.as 30 (.int .u8 ((UInt8.ofNat (B.length / 2 ^ 8)).toNat : Int)) rfl (by rw [u8_wrap]) ?_
    refine WX.as 32 (.int .u8 ((UInt8.ofNat B.length).toNat : Int)) rfl (by rw [u8_wrap]) ?_
    refine WX.lit (ys := [UInt8.ofNat (B.length / 2 ^ 8), UInt8.ofNat B.length]) rfl rfl rfl rfl rfl rfl (by decide) rfl (fun v2 h2 hs2 => ?_)
    repeat' (first | refine mv ?_ | (refine I.ld ?_; refine ld rfl ?_) | (refine I.fa ?_; refine fa ?_) | (refine I.nc ?_; refine nc ?_) | fail)
    refine WX.app rfl rfl hs2 hr rfl rfl (by decide) (by simp only [List.length_cons, List.length_nil]; omega) rfl (fun v3 h3 hs3 => ?_)
    repeat' (first | refine go ?_ | refine mv ?_ | refine asg ?_ | (refine I.bin ?_; first | refine WX.shrN (m := 24) rfl rfl (by decide) rfl ?_ | refine WX.shrN (m := 16) rfl rfl (by decide) rfl ?_ | refine WX.shrN (m := 8) rfl rfl (by decide) rfl ?_) | refine WX.convW rfl rfl ?_ | fail)
    refine WX.as 42 (.int .u8 ((UInt8.ofNat (crcS B / 2 ^ 24)).toNat : Int)) rfl (by rw [u8_wrap]) ?_
    refine WX.as 45 (.int .u8 ((UInt8.ofNat (crcS B / 2 ^ 16)).toNat : Int)) rfl (by rw [u8_wrap]) ?_
    refine WX.as 48 (.int .u8 ((UInt8.ofNat (crcS B / 2 ^ 8)).toNat : Int)) rfl (by rw [u8_wrap]) ?_
    refine WX.as 50 (.int .u8 ((UInt8.ofNat (crcS B)).toNat : Int)) rfl (by rw [u8_wrap]) ?_
    refine WX.lit (ys := be32 (crcS B)) rfl rfl rfl rfl rfl rfl (by decide) rfl (fun v4 h4 hs4 => ?_)
    refine WX.app rfl rfl hs3 hs4.rs rfl rfl (by decide) (by simp only [List.length_cons, List.length_nil, List.length_append, be32]; omega) rfl (fun v5 h5 hs5 => ?_)
    repeat' (first | refine go ?_ | refine asg ?_ | fail)
    exact D.fin2 [CBr c (.slice p1 l1 c1) p rd bad false false, h, h5] _ rfl rfl rfl ⟨_, _, rfl, rfl, hs5⟩
end Go.Proofs.YtihaajncebdioaaGreat

/-
  The body of a frame.
-/
set_option linter.unusedVariables false
set_option linter.unusedSimpArgs false
namespace Go.Sl
open Go
section
variable {g : World} {P : Program} {ops : Array Oper} {Q : Exit → Act → World → Prop} {n : Nat} {rest : List Oper} {L : Fm} {H : HH} {q : Bool}
variable {d : Nat} {ty : TypeId} {pos : String} {af : Array Edge} {x y : Operand} {t t' a b : Nat}
theorem i64_or_nat (a b : Nat) (ha : a < 4294967296) (hb : b < 4294967296) : bits .or .i64 (a : Int) (b : Int) = ((a ||| b : Nat) : Int) := by
  have hx : a ||| b < 2 ^ 32 := Nat.or_lt_two_pow (by omega) (by omega)
  have h1 : ∀ c : Nat, c < 4294967296 → (BitVec.ofInt 64 (c : Int)).toNat = c := fun c hc => by
    rw [BitVec.ofInt_natCast, BitVec.toNat_ofNat]; exact Nat.mod_eq_of_lt (by omega)
  show IntKind.i64.wrap ((BitVec.ofInt 64 (a : Int) ||| BitVec.ofInt 64 (b : Int)).toNat : Int) = _
  rw [BitVec.toNat_or, h1 a ha, h1 b hb]
  exact IntWalk.i64_in _ (by omega)
theorem WX.or64 (hx : ev L x = some (.int .i64 (a : Int))) (hy : ev L y = some (.int .i64 (b : Int))) (ha : a < 4294967296) (hb : b < 4294967296) (hd : Nat.blt d n = true)
    (k : WX q g P ops Q n rest ((d, .int .i64 ((a ||| b : Nat) : Int)) :: L) H) : WX q g P ops Q n (⟨some d, .binOp .or t x y t', ty, pos, af, none⟩ :: rest) L H :=
  WX.val (fun ac hac w _ => run_bin (hac.ev hx) (hac.ev hy) run_eqGuard_int (by
    have := i64_or_nat a b ha hb
    simp only [binOp, ne_eq, not_true_eq_false, if_false, intBits_or, this, Sem.run_pure])) hd k
end
end Go.Sl
namespace Go.Proofs.YtihaajncebdioaaGreat
open Go Go.Sl

theorem equal_ct {xs ys : List UInt8} {u v : Value} {hu hv : Hp} (h1 : Rs xs u hu) (h2 : Rs ys v hv) :
    Ct Tryz.prog 54 [u, v] [hu, hv] (fun r H' => r = .bool (decide (xs = ys)) ∧ H' = [hu, hv]) := by
  refine Ct.mk' Tryz.func54 rfl rfl rfl (fun g R => ?_)
  try simp only [List.cons_append]
  simp only [List.nil_append]
  repeat' (first | refine go ?_ | refine mv ?_ | refine asg ?_ | (refine I.bin ?_; refine eS ?_) | refine cv rfl (by assumption) ?_ | fail)
  exact D.fin1 [hu, hv] _ rfl rfl ⟨by simp only [strOf_inj], rfl⟩

theorem frame_len (B : List UInt8) : (frame B).length = B.length + 6 := by
  unfold frame be32
  simp only [List.length_append, List.length_cons, List.length_nil]; omega
theorem frame_0 (B : List UInt8) : (frame B)[0]? = some (UInt8.ofNat (B.length / 2 ^ 8)) := rfl
theorem frame_1 (B : List UInt8) : (frame B)[1]? = some (UInt8.ofNat B.length) := rfl
theorem frame_n {B : List UInt8} (h : B.length < 65536) : (UInt8.ofNat (B.length / 2 ^ 8)).toNat * 2 ^ 8 ||| (UInt8.ofNat B.length).toNat = B.length := by
  rw [byte_ofNat (by omega), UInt8.toNat_ofNat', Nat.mul_comm, ← Nat.two_pow_add_eq_or_of_lt (i := 8) (by omega)]
  omega

set_option maxHeartbeats 1000000 in
theorem body_short {B xs : List UInt8} (hB : B.length < 65536) {k : Nat} (hk : k < (frame B).length) (hx : xs = (frame B).take k) {v : Value} {h : Hp} (hr : Rs xs v h) :
    Ct Tryz.prog 52 [v] [h] (fun r H' => r = .tuple #[.slice none 0 0, .int .i64 40] ∧ H' = [h]) := by
  have hxl : xs.length = k := by rw [hx, List.length_take]; omega
  rw [frame_len] at hk
  refine Ct.mk' Tryz.func52 rfl rfl rfl (fun g R => ?_)
  try simp only [List.cons_append]
  simp only [List.nil_append]
  by_cases h2 : xs.length < 2
  · repeat' (first | refine go ?_ | refine mv ?_ | refine asg ?_ | (refine I.bin ?_; refine cm rfl rfl ?_) | (refine I.cond ?_; refine cP ?_) | (refine I.bi ?_; refine ln rfl (by assumption) ?_) | refine W.scopeF 0 rfl ?_ | fail)
    exact D.fin2 [h] _ rfl rfl rfl ⟨rfl, rfl⟩
  · obtain ⟨x0, hx0⟩ : ∃ x, xs[0]? = some x := ⟨_, List.getElem?_eq_getElem (by omega)⟩
    obtain ⟨x1, hx1⟩ : ∃ x, xs[1]? = some x := ⟨_, List.getElem?_eq_getElem (by omega)⟩
    have e0 : x0 = UInt8.ofNat (B.length / 2 ^ 8) := by
      rw [hx, List.getElem?_take_of_lt (by omega), frame_0] at hx0; exact (Option.some.inj hx0).symm
    have e1 : x1 = UInt8.ofNat B.length := by
      rw [hx, List.getElem?_take_of_lt (by omega), frame_1] at hx1; exact (Option.some.inj hx1).symm
    have hn := frame_n hB
    rw [← e0, ← e1] at hn
    have hb0 := byte_lt x0
    have hb1 := byte_lt x1
    repeat' (first | refine go ?_ | refine mv ?_ | refine asg ?_ | (refine I.bin ?_; refine cm rfl rfl ?_) | (refine I.cond ?_; refine cN ?_) | (refine I.bi ?_; refine ln rfl (by assumption) ?_) | refine W.scopeF 0 rfl ?_ | fail)
    refine W.quiet Tryz.mix (by kernel_rfl) ?_
    repeat' (first | refine go ?_ | refine mv ?_ | (refine I.ld ?_; refine lE rfl (by assumption) ?_) | refine asg ?_ | (refine I.bin ?_; first | refine cm rfl rfl ?_ | refine ad ?_) | (refine I.cond ?_; refine cP ?_) | (refine I.bi ?_; refine ln rfl (by assumption) ?_) | (refine I.ix ?_; refine ix rfl rfl ?_) | refine WX.conv rfl rfl (IntWalk.i64_in _ (by omega)) ?_ | (refine I.bin ?_; first | refine WX.shlN (m := 8) rfl rfl (by decide) (IntWalk.i64_in _ (by omega)) rfl ?_ | refine WX.or64 rfl rfl (by omega) (by omega) rfl ?_) | fail)
    exact D.fin2 [h] _ rfl rfl rfl ⟨rfl, rfl⟩

theorem frame_B (B rest : List UInt8) : ((frame B ++ rest).drop 2).take (B.length + 2 - 2) = B := by
  show ((B ++ be32 (crcS B)) ++ rest).take (B.length + 2 - 2) = B
  rw [List.append_assoc, show B.length + 2 - 2 = B.length from by omega, List.take_left]
theorem frame_S (B rest : List UInt8) : ((frame B ++ rest).drop (B.length + 2)).take (B.length + 6 - (B.length + 2)) = be32 (crcS B) := by
  have : frame B ++ rest = ([UInt8.ofNat (B.length / 2 ^ 8), UInt8.ofNat B.length] ++ B) ++ (be32 (crcS B) ++ rest) := by unfold frame; simp
  rw [this, show B.length + 2 = ([UInt8.ofNat (B.length / 2 ^ 8), UInt8.ofNat B.length] ++ B).length from by simp, List.drop_left]
  have h4 : ([UInt8.ofNat (B.length / 2 ^ 8), UInt8.ofNat B.length] ++ B).length = B.length + 2 := by simp
  rw [h4, show B.length + 6 - (B.length + 2) = (be32 (crcS B)).length from by simp [be32], List.take_left]

set_option maxHeartbeats 1000000 in
theorem body_ok {B rest xs : List UInt8} (hB : B.length < 65536) (hx : xs = frame B ++ rest) {v : Value} {h : Hp} (hr : Rs xs v h) (hl : xs.length ≤ 1099511627776) :
    Ct Tryz.prog 52 [v] [h] (fun r H' => ∃ u, r = .tuple #[u, .int .i64 0] ∧ H' = [h] ∧ Rs B u h) := by
  have hxl : xs.length = B.length + 6 + rest.length := by rw [hx, List.length_append, frame_len]
  obtain ⟨p, c, rfl⟩ := hr.len
  have hcap : xs.length ≤ c := by obtain ⟨a, cc, e, le, _⟩ := id hr; cases e; exact le
  have x0h : xs[0]? = some (UInt8.ofNat (B.length / 2 ^ 8)) := by rw [hx]; rfl
  have x1h : xs[1]? = some (UInt8.ofNat B.length) := by rw [hx]; rfl
  have hn := frame_n hB
  have hb0 := byte_lt (UInt8.ofNat (B.length / 2 ^ 8))
  have hb1 := byte_lt (UInt8.ofNat B.length)
  have hrB : Rs B (slCut (.slice p xs.length c) 1 2 (B.length + 2) c) h := by
    have := hr.cut (m := 1) (lo := 2) (hi := B.length + 2) (mx := c) rfl (by omega) (by omega) (by omega)
    rw [hx] at this
    rw [frame_B] at this
    rw [← hx] at this
    exact this
  have hrS : Rs (be32 (crcS B)) (slCut (.slice p xs.length c) 1 (B.length + 2) (B.length + 6) c) h := by
    have := hr.cut (m := 1) (lo := B.length + 2) (hi := B.length + 6) (mx := c) rfl (by omega) (by omega) (by omega)
    rw [hx] at this
    rw [frame_S] at this
    rw [← hx] at this
    exact this
  obtain ⟨q1, q2, q3, hq⟩ : ∃ q1 q2 q3, slCut (.slice p xs.length c) 1 2 (B.length + 2) c = .slice q1 q2 q3 := ⟨_, _, _, rfl⟩
  rw [hq] at hrB
  refine Ct.mk' Tryz.func52 rfl rfl rfl (fun g R => ?_)
  try simp only [List.cons_append]
  simp only [List.nil_append]
  repeat' (first | refine go ?_ | refine mv ?_ | refine asg ?_ | (refine I.bin ?_; refine cm rfl rfl ?_) | (refine I.cond ?_; refine cN ?_) | (refine I.bi ?_; refine ln rfl (by assumption) ?_) | refine W.scopeF 0 rfl ?_ | fail)
  refine W.quiet Tryz.mix (by kernel_rfl) ?_
  repeat' (first | refine go ?_ | refine mv ?_ | (refine I.ld ?_; refine lE rfl (by assumption) ?_) | refine asg ?_ | (refine I.bin ?_; first | refine cm rfl rfl ?_ | refine ad ?_) | (refine I.cond ?_; refine cN ?_) | (refine I.bi ?_; refine ln rfl (by assumption) ?_) | (refine I.ix ?_; refine ix rfl rfl ?_) | refine WX.conv rfl rfl (IntWalk.i64_in _ (by omega)) ?_ | (refine I.bin ?_; first | refine WX.shlN (m := 8) rfl rfl (by decide) (IntWalk.i64_in _ (by omega)) rfl ?_ | (refine WX.or64 rfl rfl (by omega) (by omega) rfl ?_; rw [hn])) | fail)
  refine WX.as 27 (.int .i64 ((B.length + 2 : Nat) : Int)) rfl rfl ?_
  refine WX.cut2 (lo := 2) (hi := B.length + 2) rfl rfl rfl (by omega) (by omega) rfl ?_
  rw [hq]
  repeat' (first | refine go ?_ | refine mv ?_ | refine asg ?_ | fail)
  refine I.bs ?_
  refine WX.lit (ys := [(⟨q1, q2, q3⟩ : Sv)]) rfl rfl rfl rfl rfl rfl (by decide) rfl (fun v1 h1 hs1 => ?_)
  skip
  refine WX.callQ rfl (sum_ct hs1.rs hrB (by omega)) rfl ?_
  repeat' (first | refine go ?_ | refine mv ?_ | refine asg ?_ | (refine I.bin ?_; refine ad ?_) | fail)
  refine WX.as 34 (.int .i64 ((B.length + 2 : Nat) : Int)) rfl rfl ?_
  refine WX.as 36 (.int .i64 ((B.length + 6 : Nat) : Int)) rfl rfl ?_
  refine WX.cut2 (lo := B.length + 2) (hi := B.length + 6) rfl rfl rfl (by omega) (by omega) rfl ?_
  repeat' (first | refine mv ?_ | (refine I.bin ?_; first | refine WX.shrN (m := 24) rfl rfl (by decide) rfl ?_ | refine WX.shrN (m := 16) rfl rfl (by decide) rfl ?_ | refine WX.shrN (m := 8) rfl rfl (by decide) rfl ?_) | refine WX.convW rfl rfl ?_ | fail)
  refine WX.as 40 (.int .u8 ((UInt8.ofNat (crcS B / 2 ^ 24)).toNat : Int)) rfl (by rw [u8_wrap]) ?_
  refine WX.as 43 (.int .u8 ((UInt8.ofNat (crcS B / 2 ^ 16)).toNat : Int)) rfl (by rw [u8_wrap]) ?_
  refine WX.as 46 (.int .u8 ((UInt8.ofNat (crcS B / 2 ^ 8)).toNat : Int)) rfl (by rw [u8_wrap]) ?_
  refine WX.as 48 (.int .u8 ((UInt8.ofNat (crcS B)).toNat : Int)) rfl (by rw [u8_wrap]) ?_
  refine WX.lit (ys := be32 (crcS B)) rfl rfl rfl rfl rfl rfl (by decide) rfl (fun v4 h4 hs4 => ?_)
  refine WX.callQ rfl (equal_ct hrS hs4.rs) rfl ?_
  rw [decide_eq_true (rfl : be32 (crcS B) = be32 (crcS B))]
  repeat' (first | refine go ?_ | refine mv ?_ | refine asg ?_ | (refine I.cond ?_; refine cF ?_) | (refine I.un ?_; refine nt ?_) | fail)
  exact D.fin2 [h] _ rfl rfl rfl ⟨_, rfl, rfl, hrB⟩
end Go.Proofs.YtihaajncebdioaaGreat

/-
  Rows of items, written and read: in plain Lean.
-/
set_option linter.unusedVariables false
set_option linter.unusedSimpArgs false
namespace Go.Proofs.YtihaajncebdioaaGreat
open Go Go.Sl

def wstep (vs : List Value) (C : Cd) (it : It) : Cd :=
  match vs[it.o]? with
  | some u => { C with b := C.b ++ (encI it u).getD [], arg := C.arg || (encI it u).isNone, long := C.long || longI it u }
  | none => C
def typedAt (vs : List Value) (it : It) : Prop := ∃ u, vs[it.o]? = some u ∧ okV it u
theorem wrun {vs : List Value} : ∀ {its : List It} {C : Cd}, C.rd = false → (∀ it ∈ its, typedAt vs it) → CRun C vs its (its.foldl (wstep vs) C) vs := by
  intro its
  induction its with
  | nil => intro C _ _; exact .nil
  | cons it r ih =>
    intro C hr ht
    obtain ⟨u, hu, ok⟩ := ht it (List.mem_cons_self ..)
    have hs := CSt.w (C := C) (it := it) hr hu ok
    have hw : wstep vs C it = { C with b := C.b ++ (encI it u).getD [], arg := C.arg || (encI it u).isNone, long := C.long || longI it u } := by unfold wstep; rw [hu]
    rw [← hw] at hs
    exact .cons hs (ih (hs.facts.1.trans hr) fun x hx => ht x (List.mem_cons_of_mem _ hx))
/-- What stands for these items' values. -/
def encs2 (vs : List Value) (its : List It) : List UInt8 := (its.map fun it => ((vs[it.o]?).bind (encI it)).getD []).flatten
theorem wfold {vs : List Value} : ∀ {its : List It} {C : Cd}, (∀ it ∈ its, ∃ u e, vs[it.o]? = some u ∧ encI it u = some e ∧ longI it u = false) → its.foldl (wstep vs) C = { C with b := C.b ++ encs2 vs its } := by
  intro its
  induction its with
  | nil => intro C _; simp [encs2]
  | cons it r ih =>
    intro C h
    obtain ⟨u, e, h1, h2, h3⟩ := h it (List.mem_cons_self ..)
    have hw : wstep vs C it = { C with b := C.b ++ e } := by unfold wstep; rw [h1]; simp [h2, h3]
    rw [List.foldl_cons, hw, ih fun x hx => h x (List.mem_cons_of_mem _ hx)]
    simp [encs2, h1, h2]
def rset (vs : List Value) (ws : List Value) (it : It) : List Value := ws.set it.o ((vs[it.o]?).getD undef)
theorem rrun {vs : List Value} : ∀ {its : List It} {C : Cd} {ws : List Value} {rest : List UInt8}, C.rd = true → (∀ it ∈ its, ∃ u e, vs[it.o]? = some u ∧ okV it u ∧ encI it u = some e) → (its.map It.o).Nodup → (∀ it ∈ its, typedAt ws it) →
    C.b.drop C.p = encs2 vs its ++ rest → CRun C ws its { C with p := C.p + (encs2 vs its).length } (its.foldl (rset vs) ws) := by
  intro its
  induction its with
  | nil => intro C ws rest _ _ _ _ _; exact .nil
  | cons it r ih =>
    intro C ws rest hr h hn ht hd
    obtain ⟨u, e, h1, h2, h3⟩ := h it (List.mem_cons_self ..)
    obtain ⟨u0, t1, t2⟩ := ht it (List.mem_cons_self ..)
    have he : encs2 vs (it :: r) = e ++ encs2 vs r := by simp [encs2, h1, h3]
    rw [he, List.append_assoc] at hd
    have hs := CSt.r (C := C) hr t1 t2 h2 h3 hd
    rw [List.map_cons, List.nodup_cons] at hn
    have hd2 : C.b.drop (C.p + e.length) = encs2 vs r ++ rest := by rw [← List.drop_drop, hd, List.drop_left]
    have h5 := ih (C := { C with p := C.p + e.length }) (ws := ws.set it.o u) (rest := rest) hr (fun x hx => h x (List.mem_cons_of_mem _ hx)) hn.2 (fun x hx => by
      obtain ⟨u1, s1, s2⟩ := ht x (List.mem_cons_of_mem _ hx)
      refine ⟨u1, ?_, s2⟩
      have hne : it.o ≠ x.o := fun e => hn.1 (by rw [e]; exact List.mem_map.2 ⟨x, hx, rfl⟩)
      rw [List.getElem?_set_ne hne]
      exact s1) hd2
    have hset : rset vs ws it = ws.set it.o u := by unfold rset; rw [h1]; rfl
    rw [he, List.length_append, List.foldl_cons, hset, ← Nat.add_assoc]
    exact .cons hs h5
end Go.Proofs.YtihaajncebdioaaGreat

/-
  Records.
-/
set_option linter.unusedVariables false
set_option linter.unusedSimpArgs false
namespace Go.Proofs.YtihaajncebdioaaGreat
open Go Go.Sl

/-- A vector: three times three counts. -/
structure V9 where
  (a b c d e f g h i : Int)
  deriving DecidableEq
structure Ent where
  (dc rg sq ct sd sr : Int)
  (key val : ByteArray)
  dead : Bool
  dp : V9
  (cl op : Int)
  deriving DecidableEq
structure Mem where
  (nd sn : Int)
  deriving DecidableEq
structure Cfg where
  (ep n : Int)
  (f0 f1 f2 f3 : Mem)
  jo : Bool
  le : Mem
  deriving DecidableEq
structure Rec where
  k : Int
  e : Ent
  c : Cfg
  base : Int
  deriving DecidableEq
def V9.enc (v : V9) : List Value := [.int .i64 v.a, .int .i64 v.b, .int .i64 v.c, .int .i64 v.d, .int .i64 v.e, .int .i64 v.f, .int .i64 v.g, .int .i64 v.h, .int .i64 v.i]
def Ent.enc (e : Ent) : List Value := [.int .i64 e.dc, .int .i64 e.rg, .int .i64 e.sq, .int .i64 e.ct, .int .i64 e.sd, .int .i64 e.sr, .string e.key, .string e.val, .bool e.dead,
  .int .i64 e.dp.a, .int .i64 e.dp.b, .int .i64 e.dp.c, .int .i64 e.dp.d, .int .i64 e.dp.e, .int .i64 e.dp.f, .int .i64 e.dp.g, .int .i64 e.dp.h, .int .i64 e.dp.i, .int .i64 e.cl, .int .i64 e.op]
def Cfg.enc (c : Cfg) : List Value := [.int .i64 c.ep, .int .i64 c.n, .int .i64 c.f0.nd, .int .i64 c.f0.sn, .int .i64 c.f1.nd, .int .i64 c.f1.sn, .int .i64 c.f2.nd, .int .i64 c.f2.sn, .int .i64 c.f3.nd, .int .i64 c.f3.sn, .bool c.jo, .int .i64 c.le.nd, .int .i64 c.le.sn]
def Rec.enc (r : Rec) : List Value := .int .i64 r.k :: (r.e.enc ++ (r.c.enc ++ [.int .i64 r.base]))
instance : Enc Rec := ⟨35, Rec.enc, fun _ => rfl, fun _ => rfl, by decide⟩
def V9.z : V9 := ⟨0, 0, 0, 0, 0, 0, 0, 0, 0⟩
def Mem.z : Mem := ⟨0, 0⟩
def Ent.z : Ent := ⟨0, 0, 0, 0, 0, 0, ByteArray.empty, ByteArray.empty, false, V9.z, 0, 0⟩
def Cfg.z : Cfg := ⟨0, 0, Mem.z, Mem.z, Mem.z, Mem.z, false, Mem.z⟩
def Rec.z : Rec := ⟨0, Ent.z, Cfg.z, 0⟩
/-- What a record of this kind has. -/
def Rec.bare (r : Rec) : Rec := if r.k = 1 then ⟨1, r.e, Cfg.z, 0⟩ else if r.k = 2 then ⟨2, Ent.z, r.c, r.base⟩ else ⟨r.k, Ent.z, Cfg.z, 0⟩
def Rec.its (k : Int) : List It := if k = 1 then [.num 0] ++ itsW 1 else if k = 2 then [.num 0] ++ (itsC 21 ++ [.num 34]) else [.num 0]
end Go.Proofs.YtihaajncebdioaaGreat

/-
  Records as rows of items.
-/
set_option linter.unusedVariables false
set_option linter.unusedSimpArgs false
namespace Go.Proofs.YtihaajncebdioaaGreat
open Go Go.Sl

def tyB : It → Value → Bool
  | .num _, .int .i64 _ => true
  | .txt _ _, .string _ => true
  | .tru _, .bool _ => true
  | _, _ => false
theorem tyB_ok {it : It} {u : Value} (h : tyB it u = true) : okV it u := by
  cases it <;> cases u <;> simp only [tyB, Bool.false_eq_true] at h
  case num.int o kd n => cases kd <;> simp only [tyB, Bool.false_eq_true] at h; exact ⟨n, rfl⟩
  case txt.string => exact ⟨_, rfl⟩
  case tru.bool => exact ⟨_, rfl⟩
def allTy (vs : List Value) (its : List It) : Bool := its.all fun it => match vs[it.o]? with
  | some u => tyB it u
  | none => false
theorem allTy_ok {vs : List Value} {its : List It} (h : allTy vs its = true) : ∀ it ∈ its, typedAt vs it := by
  intro it hit
  have := List.all_eq_true.1 h it hit
  cases hu : vs[it.o]? with
  | none => simp [hu] at this
  | some u => rw [hu] at this; exact ⟨u, hu ▸ rfl, tyB_ok this⟩
theorem Rec.typed (r : Rec) (k : Int) : ∀ it ∈ Rec.its k, typedAt r.enc it := by
  apply allTy_ok
  unfold Rec.its
  split
  · rfl
  · split
    · rfl
    · rfl
theorem Rec.nodup (k : Int) : ((Rec.its k).map It.o).Nodup := by
  unfold Rec.its
  split
  · decide
  · split
    · decide
    · decide
theorem rfold_get {vs : List Value} {j : Nat} : ∀ {its : List It} {ws : List Value}, (∀ it ∈ its, it.o < ws.length ∧ it.o < vs.length) → (its.foldl (rset vs) ws)[j]? = if j ∈ its.map It.o then vs[j]? else ws[j]? := by
  intro its
  induction its with
  | nil => intro ws _; simp
  | cons it r ih =>
    intro ws h
    have h0 := h it (List.mem_cons_self ..)
    rw [List.foldl_cons, ih (ws := rset vs ws it) (fun x hx => by
      have := h x (List.mem_cons_of_mem _ hx)
      unfold rset; rw [List.length_set]; exact this)]
    by_cases hj : j ∈ r.map It.o
    · rw [if_pos hj, if_pos (by rw [List.map_cons]; exact List.mem_cons_of_mem _ hj)]
    · rw [if_neg hj]
      by_cases he : j = it.o
      · subst he
        rw [if_pos (by simp)]
        unfold rset
        rw [List.getElem?_set_self h0.1, List.getElem?_eq_getElem h0.2]
        rfl
      · rw [if_neg (by rw [List.map_cons]; intro hc; exact (List.mem_cons.1 hc).elim he hj)]
        unfold rset
        rw [List.getElem?_set_ne (fun e => he e.symm)]
theorem Rec.lt (k : Int) : ∀ it ∈ Rec.its k, it.o < 35 := by
  have h : (Rec.its k).all (fun it => decide (it.o < 35)) = true := by
    unfold Rec.its
    split
    · rfl
    · split
      · rfl
      · rfl
  intro it hit
  exact of_decide_eq_true (List.all_eq_true.1 h it hit)
/-- What is read from a record's items alone is the bare record. -/
theorem Rec.reset (r : Rec) : (Rec.its r.k).foldl (rset r.enc) Rec.z.enc = r.bare.enc := by
  apply List.ext_getElem?
  intro j
  rw [rfold_get (vs := r.enc) (ws := Rec.z.enc) (its := Rec.its r.k) (fun it hit => (⟨Rec.lt _ it hit, Rec.lt _ it hit⟩ : it.o < 35 ∧ it.o < 35))]
  by_cases hj : j < 35
  · obtain ⟨k, e, c, b⟩ := r
    unfold Rec.its Rec.bare
    by_cases h1 : k = 1
    · simp only [h1, if_true]
      iterate 35 (rcases j with _ | j; · rfl)
      omega
    · by_cases h2 : k = 2
      · simp only [h2, if_true, show ¬ ((2 : Int) = 1) from by decide, if_false]
        iterate 35 (rcases j with _ | j; · rfl)
        omega
      · simp only [h1, h2, if_false]
        iterate 35 (rcases j with _ | j; · rfl)
        omega
  · have h1 : r.enc.length = 35 := rfl
    have h2 : r.bare.enc.length = 35 := rfl
    have h3 : Rec.z.enc.length = 35 := rfl
    rw [List.getElem?_eq_none (by omega), List.getElem?_eq_none (by omega), List.getElem?_eq_none (by omega)]
    simp
end Go.Proofs.YtihaajncebdioaaGreat

/-
  Records compared.
-/
set_option linter.unusedVariables false
set_option linter.unusedSimpArgs false
namespace Go.Proofs.YtihaajncebdioaaGreat
open Go Go.Sl

theorem Rec.enc_inj {r s : Rec} (h : r.enc = s.enc) : r = s := by
  obtain ⟨k, ⟨e1, e2, e3, e4, e5, e6, e7, e8, e9, ⟨d1, d2, d3, d4, d5, d6, d7, d8, d9⟩, e10, e11⟩, ⟨c1, c2, ⟨f1, f2⟩, ⟨f3, f4⟩, ⟨f5, f6⟩, ⟨f7, f8⟩, c3, ⟨f9, f10⟩⟩, b⟩ := r
  obtain ⟨k', ⟨e1', e2', e3', e4', e5', e6', e7', e8', e9', ⟨d1', d2', d3', d4', d5', d6', d7', d8', d9'⟩, e10', e11'⟩, ⟨c1', c2', ⟨f1', f2'⟩, ⟨f3', f4'⟩, ⟨f5', f6'⟩, ⟨f7', f8'⟩, c3', ⟨f9', f10'⟩⟩, b'⟩ := s
  simp only [Rec.enc, Ent.enc, Cfg.enc, List.cons_append, List.nil_append, List.cons.injEq, Value.int.injEq, Value.string.injEq, Value.bool.injEq, true_and, and_true] at h
  obtain ⟨rfl, rfl, rfl, rfl, rfl, rfl, rfl, rfl, rfl, rfl, rfl, rfl, rfl, rfl, rfl, rfl, rfl, rfl, rfl, rfl, rfl, rfl, rfl, rfl, rfl, rfl, rfl, rfl, rfl, rfl, rfl, rfl, rfl, rfl, rfl⟩ := h
  rfl
def ckB : CK → Value → Bool
  | .i, .int .i64 _ => true
  | .s, .string _ => true
  | .b, .bool _ => true
  | _, _ => false
def cksB : List CK → List Value → Bool
  | [], [] => true
  | k :: ks, x :: xs => ckB k x && cksB ks xs
  | _, _ => false
theorem cellEq_iff {k : CK} {x y : Value} (hx : ckB k x = true) (hy : ckB k y = true) : ∃ b, cellEq k x y = some b ∧ (b = true ↔ x = y) := by
  cases k <;> cases x <;> simp only [ckB, Bool.false_eq_true] at hx <;> cases y <;> simp only [ckB, Bool.false_eq_true] at hy
  case i.int.int kd n kd' n' =>
    cases kd <;> simp only [ckB, Bool.false_eq_true] at hx
    cases kd' <;> simp only [ckB, Bool.false_eq_true] at hy
    exact ⟨_, rfl, by simp⟩
  case s.string.string => exact ⟨_, rfl, by simp⟩
  case b.bool.bool => exact ⟨_, rfl, by simp⟩
theorem cellsEq_iff : ∀ {ks : List CK} {xs ys : List Value}, cksB ks xs = true → cksB ks ys = true → ∃ b, cellsEq ks xs ys = some b ∧ (b = true ↔ xs = ys) := by
  intro ks
  induction ks with
  | nil =>
    intro xs ys h1 h2
    cases xs <;> simp [cksB] at h1
    cases ys <;> simp [cksB] at h2
    exact ⟨true, rfl, by simp⟩
  | cons k r ih =>
    intro xs ys h1 h2
    cases xs with
    | nil => simp [cksB] at h1
    | cons x xs =>
    cases ys with
    | nil => simp [cksB] at h2
    | cons y ys =>
    simp only [cksB, Bool.and_eq_true] at h1 h2
    obtain ⟨b, e1, i1⟩ := cellEq_iff h1.1 h2.1
    obtain ⟨c, e2, i2⟩ := ih h1.2 h2.2
    exact ⟨b && c, by simp [cellsEq, e1, e2], by rw [Bool.and_eq_true, i1, i2, List.cons.injEq]⟩
def kEnt : List CK := [.i, .i, .i, .i, .i, .i, .s, .s, .b, .i, .i, .i, .i, .i, .i, .i, .i, .i, .i, .i]
def kCfg : List CK := [.i, .i, .i, .i, .i, .i, .i, .i, .i, .i, .b, .i, .i]
theorem rec_eq (r s : Rec) : cellsEq (.i :: (kEnt ++ (kCfg ++ [.i]))) r.enc s.enc = some (decide (r = s)) := by
  obtain ⟨b, e, i⟩ := cellsEq_iff (ks := .i :: (kEnt ++ (kCfg ++ [.i]))) (xs := r.enc) (ys := s.enc) rfl rfl
  rw [e]
  congr 1
  by_cases h : r = s
  · rw [decide_eq_true h]; exact i.2 (by rw [h])
  · rw [decide_eq_false h]
    cases b with
    | false => rfl
    | true => exact absurd (Rec.enc_inj (i.1 rfl)) h
end Go.Proofs.YtihaajncebdioaaGreat

/-
  The coder goes over a record.
-/
set_option linter.unusedVariables false
set_option linter.unusedSimpArgs false
namespace Go.Sl
open Go
theorem W.hp {g : World} {P : Program} {c : Code} {Q : Exit → Act → World → Prop} {n : Nat} {L : Fm} {H H' : HH} (e : H = H') (k : W g P c Q n L H') : W g P c Q n L H := e ▸ k
theorem WX.hp {q : Bool} {g : World} {P : Program} {ops : Array Oper} {Q : Exit → Act → World → Prop} {n : Nat} {rest : List Oper} {L : Fm} {H H' : HH} (e : H = H') (k : WX q g P ops Q n rest L H') : WX q g P ops Q n rest L H := e ▸ k
end Go.Sl
namespace Go.Proofs.YtihaajncebdioaaGreat
open Go Go.Sl

def Rec.known (r : Rec) : Bool := decide (r.k = 1 ∨ r.k = 2 ∨ r.k = 3)
def Cd.seen (C : Cd) (r : Rec) : Cd := { C with arg := (C.arg || !r.known) || !decide (r.bare = r) }
theorem CdOk.seen {C : Cd} {r : Rec} {v : Value} {h : Hp} (k : CdOk C v h) : CdOk (C.seen r) v h := ⟨k.r, k.w, k.l⟩

theorem CSt.get {C C' : Cd} {vs vs' : List Value} {it : It} (h : CSt C vs it C' vs') {j : Nat} (hj : j ≠ it.o) : vs'[j]? = vs[j]? := by
  cases h with
  | w hr hv ok => rfl
  | r hr hv ok0 ok he hd => exact List.getElem?_set_ne (fun e => hj e.symm)
theorem CRun.get {C C' : Cd} {vs vs' : List Value} {its : List It} (h : CRun C vs its C' vs') {j : Nat} (hj : ∀ it ∈ its, j ≠ it.o) : vs'[j]? = vs[j]? := by
  induction h with
  | nil => rfl
  | cons h t ih => exact (ih fun x hx => hj x (List.mem_cons_of_mem _ hx)).trans (h.get (hj _ (List.mem_cons_self ..)))
theorem ahead {its : List It} {j : Nat} (h : its.all (fun it => decide (j ≠ it.o)) = true) : ∀ it ∈ its, j ≠ it.o := fun it hit => of_decide_eq_true (List.all_eq_true.1 h it hit)

theorem Rec.cut_e (k : Int) (e : Ent) (c : Cfg) (b : Int) : ((Rec.enc ⟨k, e, c, b⟩).drop 1).take 20 = e.enc := rfl
theorem Rec.cut_c (k : Int) (e : Ent) (c : Cfg) (b : Int) : ((Rec.enc ⟨k, e, c, b⟩).drop 21).take 13 = c.enc := rfl
theorem Rec.put_e (k : Int) (e e' : Ent) (c : Cfg) (b : Int) : setAt (Rec.enc ⟨k, e, c, b⟩) 1 e'.enc = Rec.enc ⟨k, e', c, b⟩ := by
  have h1 : Rec.enc ⟨k, e, c, b⟩ = ([.int .i64 k] ++ e.enc) ++ (c.enc ++ [.int .i64 b]) := rfl
  rw [h1, setAt_append_left _ _ _ _ (Nat.le_refl 21), setAt_all e'.enc e.enc 1 [.int .i64 k] rfl rfl]
  rfl
theorem Rec.put_c (k : Int) (e : Ent) (c c' : Cfg) (b : Int) : setAt (Rec.enc ⟨k, e, c, b⟩) 21 c'.enc = Rec.enc ⟨k, e, c', b⟩ := by
  have h1 : Rec.enc ⟨k, e, c, b⟩ = (([.int .i64 k] ++ e.enc) ++ c.enc) ++ [.int .i64 b] := rfl
  rw [h1, setAt_append_left _ _ _ _ (Nat.le_refl 34), setAt_all c'.enc c.enc 21 ([Value.int .i64 k] ++ e.enc) rfl rfl]
  rfl
theorem Rec.put_k (k : Int) (e : Ent) (c : Cfg) (b k' : Int) : (Rec.enc ⟨k, e, c, b⟩).set 0 (.int .i64 k') = Rec.enc ⟨k', e, c, b⟩ := rfl
theorem Rec.put_b (k : Int) (e : Ent) (c : Cfg) (b b' : Int) : (Rec.enc ⟨k, e, c, b⟩).set 34 (.int .i64 b') = Rec.enc ⟨k, e, c, b'⟩ := rfl
theorem Rec.get_k (r : Rec) : r.enc[0]? = some (.int .i64 r.k) := rfl
theorem Rec.get_b (r : Rec) : r.enc[34]? = some (.int .i64 r.base) := rfl
theorem Rec.len35 (r : Rec) : r.enc.length = 35 := rfl
theorem Ent.len20 (e : Ent) : e.enc.length = 20 := rfl
theorem Cfg.len13 (e : Cfg) : e.enc.length = 13 := rfl
theorem Ent.one (e : Ent) : oneCells e.enc = true := rfl
theorem Cfg.one (e : Cfg) : oneCells e.enc = true := rfl
theorem Rec.one (e : Rec) : oneCells e.enc = true := rfl

set_option maxHeartbeats 1000000 in
theorem record_ct {C C1 : Cd} {r0 r : Rec} (hrun : CRun C r0.enc (Rec.its r.k) C1 r.enc) {v : Value} {h : Hp} (hok : CdOk C v h) (hl : C1.b.length ≤ 1099511627776) {c b : Nat} :
    Ct Tryz.prog 53 [.pointer (some ⟨c, 0, none⟩), .pointer (some ⟨b, 0, none⟩)] [CBk c C v, [(b, .cells r0.enc.toArray 51 (0, 0))], h] (CPost c b 51 C (C1.seen r) v h r.enc []) := by
  obtain ⟨B1, p1, rd1, bad1, arg1, long1⟩ := C1
  obtain ⟨k, e, cf, bs⟩ := r
  simp only [] at hrun hl
  have hb0 : Rec.bare ⟨k, e, cf, bs⟩ = if k = 1 then ⟨1, e, Cfg.z, 0⟩ else if k = 2 then ⟨2, Ent.z, cf, bs⟩ else ⟨k, Ent.z, Cfg.z, 0⟩ := rfl
  by_cases h1 : k = 1
  · subst h1
    have hs : Cd.seen ⟨B1, p1, rd1, bad1, arg1, long1⟩ ⟨1, e, cf, bs⟩ = ⟨B1, p1, rd1, bad1, arg1 || !decide (Rec.mk 1 e Cfg.z 0 = ⟨1, e, cf, bs⟩), long1⟩ := by
      unfold Cd.seen; rw [hb0, if_pos rfl]; simp [Rec.known]
    have hcmp := rec_eq ⟨1, e, Cfg.z, 0⟩ ⟨1, e, cf, bs⟩
    unfold Rec.its at hrun
    rw [if_pos rfl] at hrun
    obtain ⟨C0, vs1, q1, q2⟩ := hrun.split
    have hk1 : vs1[0]? = some (.int .i64 1) := by rw [← q2.get (ahead rfl)]; rfl
    have hl0 := Nat.le_trans q2.facts.2.1 hl
    have hrd0 := q1.facts.1
    refine Ct.mk' Tryz.func53 rfl rfl rfl (fun g R => ?_)
    try simp only [List.cons_append]
    simp only [List.nil_append]
    repeat' (first | refine go ?_ | refine mv ?_ | (refine I.ld ?_; refine ld rfl ?_) | (refine I.fa ?_; refine fa ?_) | (refine I.nc ?_; refine nc ?_) | (refine I.st ?_; refine sG rfl rfl ?_) | refine bd ?_ | refine al (fun _ => ?_) | fail)
    rename_i nb
    refine WX.hp (H' := [[(nb, .cells (Rec.enc ⟨r0.k, Ent.z, Cfg.z, 0⟩).toArray 51 (0, 0))], CBk c C v, [(b, .cells r0.enc.toArray 51 (0, 0))], h, R]) rfl ?_
    refine WX.call rfl (num_ct (c := c) (b := b) (T := 51) (o := 0) q1.one hok hl0) rfl ?_
    rintro _ _ ⟨v1, m1, rfl, ok1, keep1⟩
    simp only [List.cons_append, List.nil_append]
    repeat' (first | refine go ?_ | refine mv ?_ | refine asg ?_ | (refine I.fa ?_; refine fa ?_) | (refine I.nc ?_; refine nc ?_) | (refine I.bin ?_; refine cm rfl rfl ?_) | (refine I.cond ?_; refine cT ?_) | (refine I.ld ?_; refine WX.load rfl hk1 rfl ?_) | fail)
    refine WX.call rfl (write_ct (c := c) (b := b) (T := 51) (o := 1) q2 ok1 hl) rfl ?_
    rintro _ _ ⟨v2, m2, rfl, ok2, keep2⟩
    simp only [List.cons_append, List.nil_append]
    repeat' (first | refine go ?_ | refine mv ?_ | (refine I.nc ?_; refine nc ?_) | (refine I.fa ?_; refine fa ?_) | fail)
    refine I.ld ?_
    refine WX.loadA (b := b) (i := 1) (cs := Rec.enc ⟨1, e, cf, bs⟩) (vs := e.enc) rfl (Rec.cut_e _ _ _ _) rfl rfl ?_
    refine I.fa ?_
    refine fa ?_
    refine I.st ?_
    refine WX.storeG (vs := e.enc) (b := nb) (i := 1) (cs := Rec.enc ⟨r0.k, Ent.z, Cfg.z, 0⟩) rfl rfl rfl (Ent.len20 _) (Ent.one _) rfl ?_
    rw [Rec.put_e]
    refine WX.nil ?_
    skip
    repeat' (first | refine go ?_ | refine mv ?_ | (refine I.nc ?_; refine nc ?_) | (refine I.fa ?_; refine fa ?_) | fail)
    refine I.ld ?_
    refine WX.load (v := .int .i64 1) (b := b) (i := 0) (cs := Rec.enc ⟨1, e, cf, bs⟩) rfl rfl rfl ?_
    refine I.fa ?_
    refine fa ?_
    refine I.st ?_
    refine WX.store (b := nb) (i := 0) (cs := Rec.enc ⟨r0.k, e, Cfg.z, 0⟩) rfl rfl rfl rfl ?_
    rw [Rec.put_k]
    refine WX.nil ?_
    skip
    skip
    repeat' (first | refine go ?_ | fail)
    refine W.mix (List.replicate 12 true) [CBr c v2 p1 rd1 bad1 arg1 long1, [(nb, .cells (Rec.enc ⟨1, e, Cfg.z, 0⟩).toArray 51 (0, 0))], [(b, .cells (Rec.enc ⟨1, e, cf, bs⟩).toArray 51 (0, 0))]] Tryz.mix (by kernel_rfl) ?_
    cases arg1 with
    | true =>
      repeat' (first | refine go ?_ | refine mv ?_ | (refine I.ld ?_; refine ld rfl ?_) | (refine I.gd ?_; refine gn ?_) | (refine I.fa ?_; refine fa ?_) | (refine I.nc ?_; refine nc ?_) | (refine I.pk ?_; refine pT ?_) | refine mN ?_ | refine mU ?_ | (refine I.st ?_; refine st rfl rfl ?_) | fail)
      exact D.finE [CBr c v2 p1 rd1 bad1 true long1, [(b, .cells (Rec.enc ⟨1, e, cf, bs⟩).toArray 51 (0, 0))], m2] _ rfl ⟨v2, m2, by rw [hs] <;> rfl, ok2.seen, keep_trans hrd0 keep1 keep2⟩
    | false =>
      repeat' (first | (refine I.ld ?_; first | refine WX.loadA (b := nb) (i := 0) (cs := Rec.enc ⟨1, e, Cfg.z, 0⟩) (vs := Rec.enc ⟨1, e, Cfg.z, 0⟩) rfl rfl rfl rfl ?_ | refine WX.loadA (b := b) (i := 0) (cs := Rec.enc ⟨1, e, cf, bs⟩) (vs := Rec.enc ⟨1, e, cf, bs⟩) rfl rfl rfl rfl ?_) | (refine I.bin ?_; refine WX.neqA rfl rfl hcmp rfl ?_) | refine go ?_ | refine mv ?_ | (refine I.ld ?_; refine ld rfl ?_) | (refine I.gd ?_; refine gy ?_) | (refine I.fa ?_; refine fa ?_) | (refine I.nc ?_; refine nc ?_) | (refine I.pk ?_; refine pF ?_) | refine mN ?_ | refine mU ?_ | (refine I.st ?_; refine st rfl rfl ?_) | fail)
      exact D.finE [CBr c v2 p1 rd1 bad1 (!decide ((⟨1, e, Cfg.z, 0⟩ : Rec) = ⟨1, e, cf, bs⟩)) long1, [(b, .cells (Rec.enc ⟨1, e, cf, bs⟩).toArray 51 (0, 0))], m2] _ rfl ⟨v2, m2, by rw [hs]; rfl, ok2.seen, keep_trans hrd0 keep1 keep2⟩
  by_cases h2 : k = 2
  · subst h2
    have hs : Cd.seen ⟨B1, p1, rd1, bad1, arg1, long1⟩ ⟨2, e, cf, bs⟩ = ⟨B1, p1, rd1, bad1, arg1 || !decide (Rec.mk 2 Ent.z cf bs = ⟨2, e, cf, bs⟩), long1⟩ := by
      unfold Cd.seen; rw [hb0, if_neg h1, if_pos rfl]; simp [Rec.known]
    have hcmp := rec_eq ⟨2, Ent.z, cf, bs⟩ ⟨2, e, cf, bs⟩
    unfold Rec.its at hrun
    rw [if_neg h1, if_pos rfl] at hrun
    obtain ⟨C0, vs1, q1, hrun⟩ := hrun.split
    obtain ⟨C2, vs2, q2, q3⟩ := hrun.split
    have hk1 : vs1[0]? = some (.int .i64 2) := by rw [← q2.get (ahead rfl), ← q3.get (ahead rfl)]; rfl
    have hl2 := Nat.le_trans q3.facts.2.1 hl
    have hl0 := Nat.le_trans q2.facts.2.1 hl2
    have hrd0 := q1.facts.1
    have hrd2 := q2.facts.1.trans hrd0
    refine Ct.mk' Tryz.func53 rfl rfl rfl (fun g R => ?_)
    try simp only [List.cons_append]
    simp only [List.nil_append]
    repeat' (first | refine go ?_ | refine mv ?_ | (refine I.ld ?_; refine ld rfl ?_) | (refine I.fa ?_; refine fa ?_) | (refine I.nc ?_; refine nc ?_) | (refine I.st ?_; refine sG rfl rfl ?_) | refine bd ?_ | refine al (fun _ => ?_) | fail)
    rename_i nb
    refine WX.hp (H' := [[(nb, .cells (Rec.enc ⟨r0.k, Ent.z, Cfg.z, 0⟩).toArray 51 (0, 0))], CBk c C v, [(b, .cells r0.enc.toArray 51 (0, 0))], h, R]) rfl ?_
    refine WX.call rfl (num_ct (c := c) (b := b) (T := 51) (o := 0) q1.one hok hl0) rfl ?_
    rintro _ _ ⟨v1, m1, rfl, ok1, keep1⟩
    simp only [List.cons_append, List.nil_append]
    repeat' (first | refine go ?_ | refine mv ?_ | refine asg ?_ | (refine I.fa ?_; refine fa ?_) | (refine I.nc ?_; refine nc ?_) | (refine I.bin ?_; refine cm rfl rfl ?_) | (refine I.cond ?_; first | refine cT ?_ | refine cF ?_) | (refine I.ld ?_; refine WX.load rfl hk1 rfl ?_) | fail)
    refine WX.call rfl (chain_ct (c := c) (b := b) (T := 51) (o := 21) q2 ok1 hl2) rfl ?_
    rintro _ _ ⟨v3, m3, rfl, ok3, keep3⟩
    simp only [List.cons_append, List.nil_append]
    repeat' (first | refine go ?_ | refine mv ?_ | (refine I.fa ?_; refine fa ?_) | (refine I.nc ?_; refine nc ?_) | fail)
    refine WX.call rfl (num_ct (c := c) (b := b) (T := 51) (o := 34) q3.one ok3 hl) rfl ?_
    rintro _ _ ⟨v2, m2, rfl, ok2, keep2⟩
    simp only [List.cons_append, List.nil_append]
    repeat' (first | refine go ?_ | fail)
    refine W.mix (List.replicate 9 true ++ [false]) [[(b, .cells (Rec.enc ⟨2, e, cf, bs⟩).toArray 51 (0, 0))]] Tryz.mix (by kernel_rfl) ?_
    repeat' (first | (refine I.ld ?_; first | refine WX.loadA (b := b) (i := 21) (cs := Rec.enc ⟨2, e, cf, bs⟩) (vs := cf.enc) rfl (Rec.cut_c _ _ _ _) rfl rfl ?_ | refine WX.load (v := .int .i64 bs) (b := b) (i := 34) (cs := Rec.enc ⟨2, e, cf, bs⟩) rfl rfl rfl ?_) | (refine I.st ?_; refine WX.storeG (vs := cf.enc) (b := nb) (i := 21) (cs := Rec.enc ⟨r0.k, Ent.z, Cfg.z, 0⟩) rfl rfl rfl (Cfg.len13 _) (Cfg.one _) rfl ?_; rw [Rec.put_c]) | (refine I.st ?_; refine WX.store (v := .int .i64 bs) (b := nb) (i := 34) (cs := Rec.enc ⟨r0.k, Ent.z, cf, 0⟩) rfl rfl rfl rfl ?_; rw [Rec.put_b]; refine WX.nil ?_) | refine go ?_ | refine mv ?_ | (refine I.ld ?_; refine ld rfl ?_) | (refine I.fa ?_; refine fa ?_) | (refine I.nc ?_; refine nc ?_) | refine mN ?_ | refine mU ?_ | refine mA ?_ | (refine I.st ?_; refine st rfl rfl ?_) | fail)
    rw [Rec.put_k]
    skip
    skip
    skip
    refine W.mix (List.replicate 12 true) [CBr c v2 p1 rd1 bad1 arg1 long1, [(nb, .cells (Rec.enc ⟨2, Ent.z, cf, bs⟩).toArray 51 (0, 0))], [(b, .cells (Rec.enc ⟨2, e, cf, bs⟩).toArray 51 (0, 0))]] Tryz.mix (by kernel_rfl) ?_
    cases arg1 with
    | true =>
      repeat' (first | refine go ?_ | refine mv ?_ | (refine I.ld ?_; refine ld rfl ?_) | (refine I.gd ?_; refine gn ?_) | (refine I.fa ?_; refine fa ?_) | (refine I.nc ?_; refine nc ?_) | (refine I.pk ?_; refine pT ?_) | refine mN ?_ | refine mU ?_ | (refine I.st ?_; refine st rfl rfl ?_) | fail)
      exact D.finE [CBr c v2 p1 rd1 bad1 true long1, [(b, .cells (Rec.enc ⟨2, e, cf, bs⟩).toArray 51 (0, 0))], m2] _ rfl ⟨v2, m2, by rw [hs] <;> rfl, ok2.seen, keep_trans hrd2 (keep_trans hrd0 keep1 keep3) keep2⟩
    | false =>
      repeat' (first | (refine I.ld ?_; first | refine WX.loadA (b := nb) (i := 0) (cs := Rec.enc ⟨2, Ent.z, cf, bs⟩) (vs := Rec.enc ⟨2, Ent.z, cf, bs⟩) rfl rfl rfl rfl ?_ | refine WX.loadA (b := b) (i := 0) (cs := Rec.enc ⟨2, e, cf, bs⟩) (vs := Rec.enc ⟨2, e, cf, bs⟩) rfl rfl rfl rfl ?_) | (refine I.bin ?_; refine WX.neqA rfl rfl hcmp rfl ?_) | refine go ?_ | refine mv ?_ | (refine I.ld ?_; refine ld rfl ?_) | (refine I.gd ?_; refine gy ?_) | (refine I.fa ?_; refine fa ?_) | (refine I.nc ?_; refine nc ?_) | (refine I.pk ?_; refine pF ?_) | refine mN ?_ | refine mU ?_ | (refine I.st ?_; refine st rfl rfl ?_) | fail)
      exact D.finE [CBr c v2 p1 rd1 bad1 (!decide ((⟨2, Ent.z, cf, bs⟩ : Rec) = ⟨2, e, cf, bs⟩)) long1, [(b, .cells (Rec.enc ⟨2, e, cf, bs⟩).toArray 51 (0, 0))], m2] _ rfl ⟨v2, m2, by rw [hs]; rfl, ok2.seen, keep_trans hrd2 (keep_trans hrd0 keep1 keep3) keep2⟩
  have hi : Rec.its k = [.num 0] := by unfold Rec.its; rw [if_neg h1, if_neg h2]
  have hb1 : Rec.bare ⟨k, e, cf, bs⟩ = ⟨k, Ent.z, Cfg.z, 0⟩ := by rw [hb0, if_neg h1, if_neg h2]
  rw [hi] at hrun
  by_cases h3 : k = 3
  · subst h3
    have hs : Cd.seen ⟨B1, p1, rd1, bad1, arg1, long1⟩ ⟨3, e, cf, bs⟩ = ⟨B1, p1, rd1, bad1, arg1 || !decide (Rec.mk 3 Ent.z Cfg.z 0 = ⟨3, e, cf, bs⟩), long1⟩ := by
      unfold Cd.seen; rw [hb1]; simp [Rec.known]
    have hcmp := rec_eq ⟨3, Ent.z, Cfg.z, 0⟩ ⟨3, e, cf, bs⟩
    refine Ct.mk' Tryz.func53 rfl rfl rfl (fun g R => ?_)
    try simp only [List.cons_append]
    simp only [List.nil_append]
    repeat' (first | refine go ?_ | refine mv ?_ | (refine I.ld ?_; refine ld rfl ?_) | (refine I.fa ?_; refine fa ?_) | (refine I.nc ?_; refine nc ?_) | (refine I.st ?_; refine sG rfl rfl ?_) | refine bd ?_ | refine al (fun _ => ?_) | fail)
    rename_i nb
    refine WX.hp (H' := [[(nb, .cells (Rec.enc ⟨r0.k, Ent.z, Cfg.z, 0⟩).toArray 51 (0, 0))], CBk c C v, [(b, .cells r0.enc.toArray 51 (0, 0))], h, R]) rfl ?_
    refine WX.call rfl (num_ct (c := c) (b := b) (T := 51) (o := 0) hrun.one hok hl) rfl ?_
    rintro _ _ ⟨v2, m2, rfl, ok2, keep2⟩
    simp only [List.cons_append, List.nil_append]
    repeat' (first | (refine I.ld ?_; refine WX.load (v := .int .i64 3) (b := b) (i := 0) (cs := Rec.enc ⟨3, e, cf, bs⟩) rfl rfl rfl ?_) | refine go ?_ | refine mv ?_ | refine asg ?_ | (refine I.fa ?_; refine fa ?_) | (refine I.nc ?_; refine nc ?_) | (refine I.bin ?_; refine cm rfl rfl ?_) | (refine I.cond ?_; first | refine cT ?_ | refine cF ?_) | (refine I.st ?_; refine st rfl rfl ?_) | fail)
    rw [Rec.put_k]
    skip
    skip
    skip
    refine W.mix (List.replicate 12 true) [CBr c v2 p1 rd1 bad1 arg1 long1, [(nb, .cells (Rec.enc ⟨3, Ent.z, Cfg.z, 0⟩).toArray 51 (0, 0))], [(b, .cells (Rec.enc ⟨3, e, cf, bs⟩).toArray 51 (0, 0))]] Tryz.mix (by kernel_rfl) ?_
    cases arg1 with
    | true =>
      repeat' (first | refine go ?_ | refine mv ?_ | (refine I.ld ?_; refine ld rfl ?_) | (refine I.gd ?_; refine gn ?_) | (refine I.fa ?_; refine fa ?_) | (refine I.nc ?_; refine nc ?_) | (refine I.pk ?_; refine pT ?_) | refine mN ?_ | refine mU ?_ | (refine I.st ?_; refine st rfl rfl ?_) | fail)
      exact D.finE [CBr c v2 p1 rd1 bad1 true long1, [(b, .cells (Rec.enc ⟨3, e, cf, bs⟩).toArray 51 (0, 0))], m2] _ rfl ⟨v2, m2, by rw [hs] <;> rfl, ok2.seen, keep2⟩
    | false =>
      repeat' (first | (refine I.ld ?_; first | refine WX.loadA (b := nb) (i := 0) (cs := Rec.enc ⟨3, Ent.z, Cfg.z, 0⟩) (vs := Rec.enc ⟨3, Ent.z, Cfg.z, 0⟩) rfl rfl rfl rfl ?_ | refine WX.loadA (b := b) (i := 0) (cs := Rec.enc ⟨3, e, cf, bs⟩) (vs := Rec.enc ⟨3, e, cf, bs⟩) rfl rfl rfl rfl ?_) | (refine I.bin ?_; refine WX.neqA rfl rfl hcmp rfl ?_) | refine go ?_ | refine mv ?_ | (refine I.ld ?_; refine ld rfl ?_) | (refine I.gd ?_; refine gy ?_) | (refine I.fa ?_; refine fa ?_) | (refine I.nc ?_; refine nc ?_) | (refine I.pk ?_; refine pF ?_) | refine mN ?_ | refine mU ?_ | (refine I.st ?_; refine st rfl rfl ?_) | fail)
      exact D.finE [CBr c v2 p1 rd1 bad1 (!decide ((⟨3, Ent.z, Cfg.z, 0⟩ : Rec) = ⟨3, e, cf, bs⟩)) long1, [(b, .cells (Rec.enc ⟨3, e, cf, bs⟩).toArray 51 (0, 0))], m2] _ rfl ⟨v2, m2, by rw [hs]; rfl, ok2.seen, keep2⟩
  · have hs : Cd.seen ⟨B1, p1, rd1, bad1, arg1, long1⟩ ⟨k, e, cf, bs⟩ = ⟨B1, p1, rd1, bad1, true, long1⟩ := by
      unfold Cd.seen; simp [Rec.known, h1, h2, h3]
    refine Ct.mk' Tryz.func53 rfl rfl rfl (fun g R => ?_)
    try simp only [List.cons_append]
    simp only [List.nil_append]
    repeat' (first | refine go ?_ | refine mv ?_ | (refine I.ld ?_; refine ld rfl ?_) | (refine I.fa ?_; refine fa ?_) | (refine I.nc ?_; refine nc ?_) | (refine I.st ?_; refine sG rfl rfl ?_) | refine bd ?_ | refine al (fun _ => ?_) | fail)
    rename_i nb
    refine WX.hp (H' := [[(nb, .cells (Rec.enc ⟨r0.k, Ent.z, Cfg.z, 0⟩).toArray 51 (0, 0))], CBk c C v, [(b, .cells r0.enc.toArray 51 (0, 0))], h, R]) rfl ?_
    refine WX.call rfl (num_ct (c := c) (b := b) (T := 51) (o := 0) hrun.one hok hl) rfl ?_
    rintro _ _ ⟨v2, m2, rfl, ok2, keep2⟩
    simp only [List.cons_append, List.nil_append]
    repeat' (first | (refine I.ld ?_; refine WX.load (v := .int .i64 k) (b := b) (i := 0) (cs := Rec.enc ⟨k, e, cf, bs⟩) rfl rfl rfl ?_) | refine go ?_ | refine mv ?_ | refine asg ?_ | (refine I.fa ?_; refine fa ?_) | (refine I.nc ?_; refine nc ?_) | (refine I.bin ?_; refine cm rfl rfl ?_) | (refine I.cond ?_; refine cN ?_) | (refine I.st ?_; refine st rfl rfl ?_) | fail)
    rw [Rec.put_k]
    skip
    skip
    refine W.mix (List.replicate 12 true) [CBr c v2 p1 rd1 bad1 true long1, [(nb, .cells (Rec.enc ⟨k, Ent.z, Cfg.z, 0⟩).toArray 51 (0, 0))], [(b, .cells (Rec.enc ⟨k, e, cf, bs⟩).toArray 51 (0, 0))]] Tryz.mix (by kernel_rfl) ?_
    repeat' (first | refine go ?_ | refine mv ?_ | (refine I.ld ?_; refine ld rfl ?_) | (refine I.gd ?_; refine gn ?_) | (refine I.fa ?_; refine fa ?_) | (refine I.nc ?_; refine nc ?_) | (refine I.pk ?_; refine pT ?_) | refine mN ?_ | refine mU ?_ | (refine I.st ?_; refine st rfl rfl ?_) | fail)
    exact D.finE [CBr c v2 p1 rd1 bad1 true long1, [(b, .cells (Rec.enc ⟨k, e, cf, bs⟩).toArray 51 (0, 0))], m2] _ rfl ⟨v2, m2, by rw [hs] <;> rfl, ok2.seen, keep2⟩
end Go.Proofs.YtihaajncebdioaaGreat

/-
  A record's frame: in plain Lean.
-/
set_option linter.unusedVariables false
set_option linter.unusedSimpArgs false
namespace Go.Proofs.YtihaajncebdioaaGreat
open Go Go.Sl

/-- The coder that went over this record, to write it. -/
def Rec.w (r : Rec) : Cd := ((Rec.its r.k).foldl (wstep r.enc) {}).seen r
def Rec.code (r : Rec) : Int := (frRes r.w).2
def Rec.fr (r : Rec) : List UInt8 := (frRes r.w).1
def Rec.body (r : Rec) : List UInt8 := encs2 r.enc (Rec.its r.k)
def strLen : Value → Nat
  | .string s => s.data.toList.length
  | _ => 0
def wt (vs : List Value) : It → Nat
  | .txt o _ => ((vs[o]?).map strLen).getD 0
  | _ => 0
def tl (u : Value) : It → Nat
  | .txt _ _ => strLen u
  | _ => 0
theorem encI_len {it : It} {u : Value} (hs : strLen u ≤ 1073741824) : ((encI it u).getD []).length ≤ 9 + tl u it := by
  cases it <;> cases u <;> simp only [tl, encI, Option.getD_none, List.length_nil, Nat.zero_le]
  case num.int o kd n =>
    cases kd <;> simp only [encI, Option.getD_none, List.length_nil, Nat.zero_le]
    split
    · simp
    · have := encN_9 (n := n.toNat) (by omega)
      simp only [Option.getD_some]; omega
  case txt.string o m s =>
    have := encN_9 (n := s.data.toList.length) (by simp only [strLen] at hs; omega)
    simp only [strLen, Option.getD_some, List.length_append]; omega
  case tru.bool o t =>
    have := encN_9 (n := if t = true then 1 else 0) (by split <;> omega)
    simp only [Option.getD_some]; omega
theorem wfold_len {vs : List Value} : ∀ {its : List It} {C : Cd}, (∀ it ∈ its, typedAt vs it) → (∀ it ∈ its, wt vs it ≤ 1073741824) → (its.foldl (wstep vs) C).b.length ≤ C.b.length + 9 * its.length + (its.map (wt vs)).sum := by
  intro its
  induction its with
  | nil => intro C _ _; simp
  | cons it r ih =>
    intro C ht hw
    obtain ⟨u, hu, ok⟩ := ht it (List.mem_cons_self ..)
    have h1 := hw it (List.mem_cons_self ..)
    have h2 := ih (C := wstep vs C it) (fun x hx => ht x (List.mem_cons_of_mem _ hx)) (fun x hx => hw x (List.mem_cons_of_mem _ hx))
    have h3 : (wstep vs C it).b.length ≤ C.b.length + 9 + wt vs it := by
      have hs : strLen u ≤ 1073741824 := by
        cases it with
        | num o => obtain ⟨n, rfl⟩ := ok; simp [strLen]
        | tru o => obtain ⟨n, rfl⟩ := ok; simp [strLen]
        | txt o m => simp only [wt, It.o] at h1 hu; rw [hu] at h1; exact h1
      have h4 := encI_len (it := it) hs
      have h5 : tl u it = wt vs it := by
        cases it with
        | num o => rfl
        | tru o => rfl
        | txt o m => simp only [It.o] at hu; simp only [wt, hu]; rfl
      rw [h5] at h4
      unfold wstep
      rw [hu]
      simp only [List.length_append]
      omega
    simp only [List.foldl_cons, List.length_cons, List.map_cons, List.sum_cons]
    omega
theorem wfold_ok {vs : List Value} : ∀ {its : List It} {C : Cd}, (∀ it ∈ its, typedAt vs it) → (its.foldl (wstep vs) C).arg = false → (its.foldl (wstep vs) C).long = false →
    C.arg = false ∧ C.long = false ∧ ∀ it ∈ its, ∃ u e, vs[it.o]? = some u ∧ okV it u ∧ encI it u = some e ∧ longI it u = false := by
  intro its
  induction its with
  | nil => intro C _ h1 h2; exact ⟨h1, h2, by simp⟩
  | cons it r ih =>
    intro C ht h1 h2
    obtain ⟨u, hu, ok⟩ := ht it (List.mem_cons_self ..)
    obtain ⟨h3, h4, h5⟩ := ih (C := wstep vs C it) (fun x hx => ht x (List.mem_cons_of_mem _ hx)) h1 h2
    unfold wstep at h3 h4
    rw [hu] at h3 h4
    simp only [Bool.or_eq_false_iff] at h3 h4
    refine ⟨h3.1, h4.1, fun x hx => ?_⟩
    rcases List.mem_cons.1 hx with rfl | hx
    · cases he : encI x u with
      | none => simp [he] at h3
      | some e => exact ⟨u, e, hu, ok, he, h4.2⟩
    · exact h5 x hx
def Rec.size (r : Rec) : Nat := r.e.key.data.toList.length + r.e.val.data.toList.length
theorem Rec.wt_sum (r : Rec) : ((Rec.its r.k).map (wt r.enc)).sum ≤ r.size := by
  obtain ⟨k, e, c, b⟩ := r
  unfold Rec.its Rec.size
  by_cases h1 : k = 1
  · simp only [h1, if_true]
    have : ([It.num 0] ++ itsW 1).map (wt (Rec.enc ⟨1, e, c, b⟩)) = [0, 0, 0, 0, 0, 0, 0, e.key.data.toList.length, e.val.data.toList.length, 0, 0, 0, 0, 0, 0, 0, 0, 0, 0, 0, 0] := rfl
    rw [this]; simp
  · by_cases h2 : k = 2
    · simp only [h2, if_true, show ¬ ((2 : Int) = 1) from by decide, if_false]
      have : ([It.num 0] ++ (itsC 21 ++ [It.num 34])).map (wt (Rec.enc ⟨2, e, c, b⟩)) = [0, 0, 0, 0, 0, 0, 0, 0, 0, 0, 0, 0, 0, 0, 0] := rfl
      rw [this]; simp
    · simp only [h1, h2, if_false]
      have : [It.num 0].map (wt (Rec.enc ⟨k, e, c, b⟩)) = [0] := rfl
      rw [this]; simp
theorem sum_mem_le {l : List Nat} {x : Nat} (h : x ∈ l) : x ≤ l.sum := by
  induction l with
  | nil => cases h
  | cons y r ih =>
    rw [List.sum_cons]
    rcases List.mem_cons.1 h with rfl | h
    · omega
    · have := ih h; omega
theorem Rec.its_len (k : Int) : (Rec.its k).length ≤ 21 := by
  unfold Rec.its
  split
  · exact Nat.le_refl _
  · split
    · decide
    · decide
theorem Rec.w_len (r : Rec) (h : r.size ≤ 1073741824) : r.w.b.length ≤ 189 + r.size := by
  have h1 := wfold_len (vs := r.enc) (its := Rec.its r.k) (C := {}) (r.typed r.k) (fun it hit => by
    have := sum_mem_le (List.mem_map.2 ⟨it, hit, rfl⟩ : wt r.enc it ∈ (Rec.its r.k).map (wt r.enc))
    have := r.wt_sum
    omega)
  have h2 := r.wt_sum
  have h3 := Rec.its_len r.k
  have h4 : r.w.b.length = ((Rec.its r.k).foldl (wstep r.enc) {}).b.length := rfl
  have h5 : ({} : Cd).b.length = 0 := rfl
  omega
theorem Rec.wrun (r : Rec) : CRun {} r.enc (Rec.its r.k) ((Rec.its r.k).foldl (wstep r.enc) {}) r.enc := Go.Proofs.YtihaajncebdioaaGreat.wrun rfl (r.typed r.k)
/-- What a good record is. -/
structure Rec.Good (r : Rec) : Prop where
  its : ∀ it ∈ Rec.its r.k, ∃ u e, r.enc[it.o]? = some u ∧ okV it u ∧ encI it u = some e ∧ longI it u = false
  bare : r.bare = r
  known : r.known = true
  w : r.w = { b := r.body }
  fr : r.fr = frame r.body
theorem Rec.good {r : Rec} (h : r.code = 0) : r.Good := by
  have h1 : r.w.arg = false := by
    cases ha : r.w.arg with
    | false => rfl
    | true => unfold Rec.code frRes at h; rw [if_pos ha] at h; exact absurd h (by decide)
  have h2 : r.w.long = false := by
    cases ha : r.w.long with
    | false => rfl
    | true => unfold Rec.code frRes at h; rw [if_neg (by rw [h1]; decide), if_pos ha] at h; exact absurd h (by decide)
  have h3 : r.w.arg = ((((Rec.its r.k).foldl (wstep r.enc) {}).arg || !r.known) || !decide (r.bare = r)) := rfl
  have h4 : r.w.long = ((Rec.its r.k).foldl (wstep r.enc) {}).long := rfl
  rw [h3] at h1
  simp only [Bool.or_eq_false_iff, Bool.not_eq_false', decide_eq_true_eq] at h1
  rw [h4] at h2
  obtain ⟨-, -, h5⟩ := wfold_ok (r.typed r.k) h1.1.1 h2
  have h6 := wfold (vs := r.enc) (its := Rec.its r.k) (C := {}) (fun it hit => by obtain ⟨u, e, a, b, c, d⟩ := h5 it hit; exact ⟨u, e, a, c, d⟩)
  have h7 : r.w = { b := r.body } := by
    unfold Rec.w Cd.seen
    rw [h6, h1.1.2, h1.2]
    simp [Rec.body]
  exact ⟨h5, h1.2, h1.1.2, h7, by unfold Rec.fr frRes; rw [h7]; rfl⟩
theorem Rec.bad {r : Rec} (h : r.code ≠ 0) : r.fr = [] := by
  unfold Rec.code frRes at h
  unfold Rec.fr frRes
  split
  · rfl
  · rename_i h1
    rw [if_neg h1] at h
    split
    · rfl
    · rename_i h2; rw [if_neg h2] at h; exact absurd rfl h
theorem Rec.code_range (r : Rec) : r.code = 0 ∨ r.code = 1 ∨ r.code = 42 := by
  unfold Rec.code frRes
  split
  · exact .inr (.inl rfl)
  · split
    · exact .inr (.inr rfl)
    · exact .inl rfl
theorem Rec.Good.sz {r : Rec} (g : r.Good) : r.size ≤ 48 := by
  obtain ⟨k, e, c, b⟩ := r
  have hb := g.bare
  have hi := g.its
  unfold Rec.size
  by_cases h1 : k = 1
  · subst h1
    unfold Rec.its at hi
    simp only [if_true] at hi
    obtain ⟨u, w, a1, a2, a3, a4⟩ := hi (.txt 7 16) (by simp [itsW])
    obtain ⟨u', w', b1, b2, b3, b4⟩ := hi (.txt 8 32) (by simp [itsW])
    cases (Option.some.inj a1 : Value.string e.key = u)
    cases (Option.some.inj b1 : Value.string e.val = u')
    simp only [longI, decide_eq_false_iff_not, Nat.not_lt] at a4 b4
    simp only []; omega
  · have : e = Ent.z := by
      unfold Rec.bare at hb
      simp only [h1, if_false] at hb
      by_cases h2 : k = 2
      · simp only [h2, if_true, Rec.mk.injEq] at hb; exact hb.2.1.symm
      · simp only [h2, if_false, Rec.mk.injEq] at hb; exact hb.2.1.symm
    subst this
    show (0 : Nat) ≤ 48
    omega
theorem Rec.Good.len {r : Rec} (g : r.Good) : r.body.length ≤ 237 := by
  have hs : ((Rec.its r.k).map (wt r.enc)).sum ≤ 48 ∧ (∀ it ∈ Rec.its r.k, wt r.enc it ≤ 1073741824) := by
    have hx : ∀ it ∈ Rec.its r.k, wt r.enc it ≤ (match it with | .txt _ m => m | _ => 0) := by
      intro it hit
      obtain ⟨u, e, h1, h2, h3, h4⟩ := g.its it hit
      cases it with
      | num o => exact Nat.zero_le _
      | tru o => exact Nat.zero_le _
      | txt o m =>
        obtain ⟨s, rfl⟩ := h2
        simp only [longI, decide_eq_false_iff_not, Nat.not_lt] at h4
        simp only [It.o] at h1
        simp only [wt, h1]
        exact h4
    have hm : ((Rec.its r.k).map (fun it => match it with | It.txt _ m => m | _ => 0)).sum ≤ 48 := by
      unfold Rec.its
      split
      · decide
      · split
        · decide
        · decide
    have hsum : ∀ l : List It, (∀ it ∈ l, wt r.enc it ≤ (match it with | .txt _ m => m | _ => 0)) → (l.map (wt r.enc)).sum ≤ (l.map (fun it => match it with | It.txt _ m => m | _ => 0)).sum := by
      intro l
      induction l with
      | nil => intro _; simp
      | cons y t ih =>
        intro hl
        have h1 := hl y (List.mem_cons_self ..)
        have h2 := ih fun x hx => hl x (List.mem_cons_of_mem _ hx)
        simp only [List.map_cons, List.sum_cons]
        omega
    have h1 := hsum _ hx
    refine ⟨by omega, fun it hit => ?_⟩
    have := sum_mem_le (List.mem_map.2 ⟨it, hit, rfl⟩ : wt r.enc it ∈ (Rec.its r.k).map (wt r.enc))
    omega
  have h1 := wfold_len (vs := r.enc) (its := Rec.its r.k) (C := {}) (r.typed r.k) hs.2
  have h3 := Rec.its_len r.k
  have h4 : r.w.b.length = ((Rec.its r.k).foldl (wstep r.enc) {}).b.length := rfl
  have h5 : ({} : Cd).b.length = 0 := rfl
  have h6 : r.w.b = r.body := by rw [g.w]
  rw [h6] at h4
  omega
theorem Rec.Good.fr_len {r : Rec} (g : r.Good) : r.fr.length = r.body.length + 6 := by rw [g.fr, frame_len]
theorem Rec.Good.fr_le {r : Rec} (g : r.Good) : 6 ≤ r.fr.length ∧ r.fr.length ≤ 243 := by
  have := g.fr_len; have := g.len; omega
theorem Rec.Good.rrun {r : Rec} (g : r.Good) : CRun { b := r.body, rd := true } Rec.z.enc (Rec.its r.k) { b := r.body, p := r.body.length, rd := true } r.enc := by
  have h := Go.Proofs.YtihaajncebdioaaGreat.rrun (vs := r.enc) (its := Rec.its r.k) (C := { b := r.body, rd := true }) (ws := Rec.z.enc) (rest := []) rfl (fun it hit => by obtain ⟨u, e, a, b, c, d⟩ := g.its it hit; exact ⟨u, e, a, b, c⟩) (Rec.nodup r.k) (Rec.typed Rec.z r.k) (by simp [Rec.body])
  rw [Rec.reset, g.bare] at h
  have h2 : (0 : Nat) + (encs2 r.enc (Rec.its r.k)).length = r.body.length := by rw [Nat.zero_add]; rfl
  simp only [h2] at h
  exact h
end Go.Proofs.YtihaajncebdioaaGreat

/-
  Record and ReadRecord.
-/
set_option linter.unusedVariables false
set_option linter.unusedSimpArgs false
namespace Go.Proofs.YtihaajncebdioaaGreat
open Go Go.Sl

set_option maxHeartbeats 1000000 in
theorem recordP_ct (r : Rec) (hz : r.size ≤ 1073741824) :
    Ct Tryz.prog 31 [.agg r.enc.toArray] [] (fun res H' => ∃ u hb, res = .tuple #[u, .int .i64 r.code] ∧ H' = [hb] ∧ IsSl 5 r.fr u hb) := by
  have hlen := r.w_len hz
  refine Ct.mk' Tryz.func31 rfl rfl rfl (fun g R => ?_)
  try simp only [List.cons_append]
  simp only [List.nil_append]
  repeat' (first | refine go ?_ | refine mv ?_ | refine asg ?_ | refine bd ?_ | refine bx rfl (fun _ => ?_) | fail)
  rename_i b c
  refine WX.hp (H' := [CBk c {} (.slice none 0 0), [(b, .cells r.enc.toArray 51 (0, 0))], R]) rfl ?_
  refine WX.nilH ?_
  refine WX.call rfl (record_ct (c := c) (b := b) r.wrun ⟨fun e => (by cases e), fun _ => IsSl.nil _, by decide⟩ (by show r.w.b.length ≤ _; omega)) rfl ?_
  rintro _ _ ⟨v1, h1, rfl, ok1, -⟩
  simp only [List.cons_append, List.nil_append]
  rw [show (List.foldl (wstep r.enc) {} (Rec.its r.k)).seen r = r.w from rfl] at ok1 ⊢
  repeat' (first | refine go ?_ | refine mv ?_ | fail)
  refine WX.call rfl (framed_ct (c := c) (C := r.w) (ok1.w r.wrun.facts.1) (by omega)) rfl ?_
  rintro _ _ ⟨u, hb, rfl, rfl, hs⟩
  simp only [List.cons_append, List.nil_append]
  repeat' (first | refine go ?_ | refine asg ?_ | refine ex ?_ | fail)
  exact D.fin2 [hb] _ rfl rfl rfl ⟨_, _, rfl, rfl, hs⟩

set_option maxHeartbeats 1000000 in
theorem read_ok {r : Rec} (gd : r.Good) (hc : r.code = 0) {xs rest : List UInt8} (hx : xs = r.fr ++ rest) {v : Value} {h : Hp} (hr : Rs xs v h) (hl : xs.length ≤ 1099511627776) :
    Ct Tryz.prog 27 [v] [h] (fun res H' => res = .tuple #[.agg r.enc.toArray, .int .i64 (r.fr.length : Int), .int .i64 0] ∧ H' = [h]) := by
  have hfl := gd.fr_len
  have hle := gd.fr_le
  have hxl : xs.length = r.fr.length + rest.length := by rw [hx, List.length_append]
  have hB := gd.len
  rw [gd.fr] at hx
  have hne : xs ≠ [] := by intro e; rw [e] at hxl; simp at hxl; omega
  refine Ct.mk' Tryz.func27 rfl rfl rfl (fun g R => ?_)
  try simp only [List.cons_append]
  simp only [List.nil_append]
  repeat' (first | refine go ?_ | refine mv ?_ | refine asg ?_ | (refine I.bin ?_; refine cm rfl rfl ?_) | (refine I.cond ?_; refine cN ?_) | (refine I.bi ?_; refine ln rfl (by assumption) ?_) | refine al (fun _ => ?_) | refine W.scopeF 0 rfl ?_ | fail)
  refine WX.call rfl (body_ok (B := r.body) (by omega) hx hr hl) rfl ?_
  rintro _ _ ⟨u, rfl, rfl, hu⟩
  simp only [List.cons_append, List.nil_append]
  obtain ⟨q1, c1, rfl⟩ := hu.len
  repeat' (first | refine go ?_ | refine mv ?_ | refine asg ?_ | (refine I.bin ?_; refine cm rfl rfl ?_) | (refine I.cond ?_; refine cF ?_) | refine ex ?_ | refine bd ?_ | refine bx rfl (fun _ => ?_) | refine al (fun _ => ?_) | fail)
  rename_i a2 b c
  refine WX.hp (H' := [CBk c { b := r.body, rd := true } (.slice q1 r.body.length c1), [(b, .cells Rec.z.enc.toArray 51 (0, 0))], h, [(a2, .cells Rec.z.enc.toArray 51 (0, 0))], R]) rfl ?_
  refine WX.call rfl (record_ct (c := c) (b := b) (r0 := Rec.z) gd.rrun ⟨fun _ => hu, fun e => (by cases e), by simp only []; omega⟩ (by simp only []; omega)) rfl ?_
  rintro _ _ ⟨v1, h1, rfl, ok1, keep1⟩
  obtain ⟨rfl, rfl⟩ := keep1 rfl
  have hseen : Cd.seen { b := r.body, p := r.body.length, rd := true } r = { b := r.body, p := r.body.length, rd := true } := by
    unfold Cd.seen; rw [gd.bare, gd.known]; simp
  rw [hseen] at ok1 ⊢
  simp only [List.cons_append, List.nil_append]
  have hrp := recordP_ct r (by have := gd.sz; omega)
  rw [hc] at hrp
  repeat' (first | refine go ?_ | refine mv ?_ | (refine I.ld ?_; refine ld rfl ?_) | (refine I.gd ?_; refine gy ?_) | (refine I.fa ?_; refine fa ?_) | (refine I.nc ?_; refine nc ?_) | (refine I.bin ?_; refine cm rfl rfl ?_) | (refine I.pk ?_; refine pF ?_) | (refine I.bi ?_; refine ln rfl (by assumption) ?_) | fail)
  refine W.as 46 (.bool (decide ((r.body.length : Int) < (r.body.length : Int)))) rfl rfl ?_
  repeat' (first | (refine I.ld ?_; refine WX.loadA (b := b) (i := 0) (cs := Rec.enc r) (vs := Rec.enc r) rfl rfl rfl rfl ?_) | refine go ?_ | (refine I.cond ?_; refine cN ?_) | fail)
  refine WX.call rfl hrp rfl ?_
  rintro _ _ ⟨u2, h2, rfl, rfl, hs2⟩
  simp only [List.cons_append, List.nil_append]
  have hr2 := hs2.rs
  repeat' (first | refine go ?_ | refine mv ?_ | refine asg ?_ | (refine I.gd ?_; refine gy ?_) | (refine I.bin ?_; first | refine cm rfl rfl ?_ | refine ad ?_) | (refine I.bi ?_; refine ln rfl (by assumption) ?_) | refine ex ?_ | fail)
  refine WX.as 59 (.int .i64 ((r.fr.length : Nat) : Int)) rfl (by rw [hfl]; rfl) ?_
  have hxt : r.fr = xs.take r.fr.length := by rw [hx, ← gd.fr, List.take_left]
  have heq := equal_ct hr2 (hr.take (m := r.fr.length) (by omega))
  rw [decide_eq_true hxt] at heq
  refine I.sl ?_
  refine WX.slTo rfl rfl hr (by omega) rfl ?_
  repeat' (first | (refine I.gd ?_; refine gy ?_) | fail)
  refine WX.callQ rfl heq rfl ?_
  repeat' (first | (refine I.ld ?_; refine WX.loadA (b := b) (i := 0) (cs := Rec.enc r) (vs := Rec.enc r) rfl rfl rfl rfl ?_) | refine go ?_ | refine mv ?_ | refine asg ?_ | (refine I.pk ?_; refine pT ?_) | (refine I.cond ?_; refine cT ?_) | (refine I.bi ?_; refine ln rfl (by assumption) ?_) | (refine I.st ?_; refine sG rfl rfl ?_) | fail)
  exact D.finR [h1] _ rfl (.cellA rfl rfl (.tmp rfl (.tmp rfl .nil))) rfl ⟨rfl, rfl⟩

set_option maxHeartbeats 1000000 in
theorem read_short {r : Rec} (gd : r.Good) {xs : List UInt8} {k : Nat} (hk : k < r.fr.length) (hx : xs = r.fr.take k) (h0 : xs ≠ []) {v : Value} {h : Hp} (hr : Rs xs v h) :
    Ct Tryz.prog 27 [v] [h] (fun res H' => res = .tuple #[.agg Rec.z.enc.toArray, .int .i64 0, .int .i64 40] ∧ H' = [h]) := by
  have hB := gd.len
  rw [gd.fr] at hx hk
  have hxl : 0 < xs.length := List.length_pos_iff.2 h0
  refine Ct.mk' Tryz.func27 rfl rfl rfl (fun g R => ?_)
  try simp only [List.cons_append]
  simp only [List.nil_append]
  repeat' (first | refine go ?_ | refine mv ?_ | refine asg ?_ | (refine I.bin ?_; refine cm rfl rfl ?_) | (refine I.cond ?_; refine cN ?_) | (refine I.bi ?_; refine ln rfl (by assumption) ?_) | refine al (fun _ => ?_) | refine W.scopeF 0 rfl ?_ | fail)
  refine WX.call rfl (body_short (B := r.body) (by omega) hk hx hr) rfl ?_
  rintro _ _ ⟨rfl, rfl⟩
  simp only [List.cons_append, List.nil_append]
  repeat' (first | refine go ?_ | refine mv ?_ | refine asg ?_ | (refine I.bin ?_; refine cm rfl rfl ?_) | (refine I.cond ?_; refine cT ?_) | (refine I.st ?_; refine sG rfl rfl ?_) | refine ex ?_ | refine bd ?_ | fail)
  rename_i a2
  exact D.finR [h] _ rfl (.cellA rfl rfl (.tmp rfl (.tmp rfl .nil))) rfl ⟨rfl, rfl⟩
end Go.Proofs.YtihaajncebdioaaGreat

/-
  A log, in plain Lean: files of records on a disk.
-/
set_option linter.unusedVariables false
set_option linter.unusedSimpArgs false
namespace Go.Proofs.YtihaajncebdioaaGreat
open Go Go.Sl

/-- A file of a log: its number, its records, how many of them are synced. -/
structure Lf where
  n : Int
  rs : List Rec
  k : Nat
def bytes (rs : List Rec) : List UInt8 := (rs.map Rec.fr).flatten
def Lf.file (f : Lf) : FileP := ⟨f.n, bytes f.rs, (bytes (f.rs.take f.k)).length⟩
def Lf.ps (f : Lf) : List Pc := (f.rs.drop f.k).map fun r => ⟨f.n, (r.fr.length : Int)⟩
def dk (l : List Lf) : DkS := ⟨l.map Lf.file, (l.map Lf.ps).flatten⟩
def lastN (l : List Lf) : Int := match l.getLast? with
  | some f => f.n
  | none => 0
structure LUp (l : List Lf) : Prop where
  up : l.Pairwise fun a b => a.n < b.n
  good : ∀ f ∈ l, ∀ r ∈ f.rs, r.code = 0
  k : ∀ f ∈ l, f.k ≤ f.rs.length
  lo : ∀ f ∈ l, 0 ≤ f.n
  hi : ∀ f ∈ l, f.n ≤ 1099511627776
  used : (dk l).used ≤ 1048576
  len : l.length ≤ 64
structure LOk (l : List Lf) : Prop extends LUp l where
  tail : l.Pairwise fun a b => a.k < a.rs.length → b.k = 0
instance {l : List Lf} : CoeOut (LOk l) (LUp l) := ⟨fun h => h.toLUp⟩
def recs (l : List Lf) : List Rec := (l.map Lf.rs).flatten
def sumK (l : List Lf) : Nat := (l.map Lf.k).sum

theorem bytes_nil : bytes [] = [] := rfl
theorem bytes_cons (r : Rec) (rs : List Rec) : bytes (r :: rs) = r.fr ++ bytes rs := rfl
theorem bytes_app (a b : List Rec) : bytes (a ++ b) = bytes a ++ bytes b := by unfold bytes; simp
theorem bytes_take_drop (rs : List Rec) (k : Nat) : bytes (rs.take k) ++ bytes (rs.drop k) = bytes rs := by rw [← bytes_app, List.take_append_drop]
theorem bytes_len (rs : List Rec) : (bytes rs).length = (rs.map fun r => r.fr.length).sum := by
  unfold bytes; rw [List.length_flatten, List.map_map]; rfl
theorem bytes_take_le (rs : List Rec) (k : Nat) : (bytes (rs.take k)).length ≤ (bytes rs).length := by
  rw [← bytes_take_drop rs k, List.length_append]; omega
theorem bytes_pos {rs : List Rec} (h : ∀ r ∈ rs, r.code = 0) (hne : rs ≠ []) : 6 ≤ (bytes rs).length := by
  cases rs with
  | nil => exact absurd rfl hne
  | cons r t =>
    have := (Rec.good (h r (List.mem_cons_self ..))).fr_le
    rw [bytes_cons, List.length_append]; omega

section
variable {l pre post : List Lf} {f : Lf}
theorem LUp.nodup (h : LUp l) : l.Pairwise fun a b => a.n ≠ b.n := h.up.imp fun hlt => by omega
theorem LUp.mid_ne (h : LUp (pre ++ f :: post)) : (∀ x ∈ pre, x.n < f.n) ∧ (∀ x ∈ post, f.n < x.n) := by
  have := h.up
  rw [List.pairwise_append, List.pairwise_cons] at this
  exact ⟨fun x hx => this.2.2 x hx f (List.mem_cons_self ..), this.2.1.1⟩
theorem dk_find_none {k : Int} (h : ∀ x ∈ l, x.n ≠ k) : (dk l).find k = none := by
  unfold DkS.find dk
  rw [List.find?_eq_none]
  intro x hx
  obtain ⟨f, hf, rfl⟩ := List.mem_map.1 hx
  have := h f hf
  intro hc
  exact this (of_decide_eq_true hc)
theorem dk_find (h : LUp (pre ++ f :: post)) : (dk (pre ++ f :: post)).find f.n = some f.file := by
  have hp : ((pre.map Lf.file).find? fun x => decide (x.n = f.n)) = none := by
    rw [List.find?_eq_none]
    intro x hx
    obtain ⟨y, hy, rfl⟩ := List.mem_map.1 hx
    have h1 := h.mid_ne.1 y hy
    intro hc
    have h2 : y.n = f.n := of_decide_eq_true hc
    omega
  unfold DkS.find dk
  simp only [List.map_append, List.map_cons, List.find?_append, hp, Option.none_or]
  rw [List.find?_cons_of_pos (by simp [Lf.file])]
theorem sortL_sorted {xs : List Int} (h : xs.Pairwise (fun a b => a ≤ b)) : sortL xs = xs := by
  unfold sortL
  exact List.mergeSort_of_pairwise (by simpa using h)
theorem dk_names (h : LUp l) : (dk l).names = l.map (·.n) := by
  unfold DkS.names dk
  simp only [List.map_map]
  have : (l.map ((fun x : FileP => x.n) ∘ Lf.file)) = l.map (·.n) := rfl
  rw [this]
  exact sortL_sorted (List.pairwise_map.2 (h.up.imp fun hlt => by omega))
theorem dk_used : (dk l).used = (l.map fun f => (bytes f.rs).length).sum := by
  unfold DkS.used dk
  simp only [List.map_map]
  rfl
theorem bytes_count {rs : List Rec} (h : ∀ r ∈ rs, r.code = 0) : 6 * rs.length ≤ (bytes rs).length := by
  induction rs with
  | nil => simp [bytes]
  | cons r t ih =>
    have h1 := (Rec.good (h r (List.mem_cons_self ..))).fr_le
    have h2 := ih fun x hx => h x (List.mem_cons_of_mem _ hx)
    rw [bytes_cons, List.length_append, List.length_cons]; omega
theorem ps_len : f.ps.length = f.rs.length - f.k := by unfold Lf.ps; simp
theorem loose_le : (∀ f ∈ l, ∀ r ∈ f.rs, r.code = 0) → (dk l).loose.length ≤ (dk l).used := by
  rw [dk_used]
  unfold dk
  simp only []
  induction l with
  | nil => intro _; simp
  | cons f t ih =>
    intro h
    have h1 := bytes_count (h f (List.mem_cons_self ..))
    have h2 := ih fun x hx => h x (List.mem_cons_of_mem _ hx)
    simp only [List.map_cons, List.flatten_cons, List.length_append, List.sum_cons, ps_len]
    omega
theorem LUp.loose (h : LUp l) : (dk l).loose.length ≤ 1099511627776 := by
  have := loose_le h.good; have := h.used; omega
theorem LUp.fs_len (h : LUp l) : (dk l).fs.length = l.length := List.length_map _
theorem LOk.app {x : Lf} (h : LOk l) (hn : ∀ f ∈ l, f.n < x.n) (hg : ∀ r ∈ x.rs, r.code = 0) (hk : x.k = 0) (h0 : 0 ≤ x.n) (h1 : x.n ≤ 1099511627776) (hl : l.length < 64) (hu : (dk l).used + (bytes x.rs).length ≤ 1048576) : LOk (l ++ [x]) where
  up := List.pairwise_append.2 ⟨h.up, List.pairwise_singleton .., fun a ha b hb => by rw [List.mem_singleton.1 hb]; exact hn a ha⟩
  good := fun f hf => by
    rcases List.mem_append.1 hf with hf | hf
    · exact h.good f hf
    · rw [List.mem_singleton.1 hf]; exact hg
  k := fun f hf => by
    rcases List.mem_append.1 hf with hf | hf
    · exact h.k f hf
    · rw [List.mem_singleton.1 hf, hk]; exact Nat.zero_le _
  tail := List.pairwise_append.2 ⟨h.tail, List.pairwise_singleton .., fun a ha b hb _ => by rw [List.mem_singleton.1 hb]; exact hk⟩
  lo := fun f hf => by
    rcases List.mem_append.1 hf with hf | hf
    · exact h.lo f hf
    · rw [List.mem_singleton.1 hf]; exact h0
  hi := fun f hf => by
    rcases List.mem_append.1 hf with hf | hf
    · exact h.hi f hf
    · rw [List.mem_singleton.1 hf]; exact h1
  used := by rw [dk_used] at hu ⊢; simpa using hu
  len := by rw [List.length_append]; simp; omega
theorem LOk.ini (h : LOk (pre ++ post)) : LOk pre where
  up := (List.pairwise_append.1 h.up).1
  good := fun f hf => h.good f (List.mem_append_left _ hf)
  k := fun f hf => h.k f (List.mem_append_left _ hf)
  tail := (List.pairwise_append.1 h.tail).1
  lo := fun f hf => h.lo f (List.mem_append_left _ hf)
  hi := fun f hf => h.hi f (List.mem_append_left _ hf)
  used := by have := h.used; rw [dk_used] at this ⊢; simp only [List.map_append, List.sum_append] at this; omega
  len := by have := h.len; rw [List.length_append] at this; omega
/-- The last file has one more record. -/
theorem LOk.more {r : Rec} (h : LOk (pre ++ [f])) (hr : r.code = 0) (hu : (dk (pre ++ [f])).used + r.fr.length ≤ 1048576) : LOk (pre ++ [⟨f.n, f.rs ++ [r], f.k⟩]) where
  up := by
    have := h.up
    rw [List.pairwise_append] at this ⊢
    exact ⟨this.1, List.pairwise_singleton .., fun a ha b hb => by rw [List.mem_singleton.1 hb]; exact this.2.2 a ha f (List.mem_singleton.2 rfl)⟩
  good := fun x hx => by
    rcases List.mem_append.1 hx with hx | hx
    · exact h.good x (List.mem_append_left _ hx)
    · rw [List.mem_singleton.1 hx]
      intro y hy
      rcases List.mem_append.1 hy with hy | hy
      · exact h.good f (by simp) y hy
      · rw [List.mem_singleton.1 hy]; exact hr
  k := fun x hx => by
    rcases List.mem_append.1 hx with hx | hx
    · exact h.k x (List.mem_append_left _ hx)
    · rw [List.mem_singleton.1 hx]
      have := h.k f (by simp)
      simp only [List.length_append]; omega
  tail := by
    have := h.tail
    rw [List.pairwise_append] at this ⊢
    exact ⟨this.1, List.pairwise_singleton .., fun a ha b hb => by rw [List.mem_singleton.1 hb]; exact this.2.2 a ha f (List.mem_singleton.2 rfl)⟩
  lo := fun x hx => by
    rcases List.mem_append.1 hx with hx | hx
    · exact h.lo x (List.mem_append_left _ hx)
    · rw [List.mem_singleton.1 hx]; exact h.lo f (by simp)
  hi := fun x hx => by
    rcases List.mem_append.1 hx with hx | hx
    · exact h.hi x (List.mem_append_left _ hx)
    · rw [List.mem_singleton.1 hx]; exact h.hi f (by simp)
  used := by
    rw [dk_used] at hu ⊢
    simp only [List.map_append, List.sum_append, List.map_cons, List.map_nil, List.sum_cons, List.sum_nil, bytes_app, List.length_append, bytes_cons, bytes_nil, List.length_nil] at hu ⊢
    omega
  len := by have := h.len; rw [List.length_append] at this ⊢; exact this

def ladd1 (l : List Lf) (r : Rec) : List Lf × Int :=
  if r.code ≠ 0 then (l, r.code) else match l.getLast? with
    | none => ([⟨0, [r], 0⟩], 0)
    | some f => if 4096 ≤ (bytes f.rs).length then (if 1099511627776 < f.n + 1 ∨ 64 ≤ l.length ∨ 1048576 < (dk l).used + r.fr.length then (l, 51) else (l ++ [⟨f.n + 1, [r], 0⟩], 0))
      else if 1048576 < (dk l).used + r.fr.length then (l, 51) else (l.dropLast ++ [⟨f.n, f.rs ++ [r], f.k⟩], 0)
def ladd (l : List Lf) : List Rec → List Lf × Int
  | [] => (l, 0)
  | r :: rs => if (ladd1 l r).2 ≠ 0 then ladd1 l r else ladd (ladd1 l r).1 rs
theorem used_nil : (dk []).used = 0 := rfl
theorem lastN_nil : lastN [] = 0 := rfl
theorem lastN_app : lastN (pre ++ [f]) = f.n := by unfold lastN; rw [List.getLast?_concat]
theorem LOk.nil : LOk [] := ⟨⟨.nil, by simp, by simp, by simp, by simp, by rw [used_nil]; omega, by simp⟩, .nil⟩
theorem LOk.add1 (h : LOk l) (r : Rec) : LOk (ladd1 l r).1 := by
  unfold ladd1
  by_cases hr : r.code = 0
  · rw [if_neg (by simpa using hr)]
    have hle := (Rec.good hr).fr_le
    rcases List.eq_nil_or_concat l with rfl | ⟨pre, f, rfl⟩
    · exact LOk.app (l := []) LOk.nil (by simp) (by simpa using hr) rfl (Int.le_refl 0) (by simp only []; omega) (by decide) (by rw [used_nil]; simp [bytes]; omega)
    · rw [List.concat_eq_append] at h ⊢
      rw [List.getLast?_concat]
      simp only [List.dropLast_concat]
      split
      · split
        · exact h
        · rename_i h2
          simp only [not_or, Int.not_lt, Nat.not_le, Nat.not_lt] at h2
          refine LOk.app h (fun x hx => ?_) (by simpa using hr) rfl (by have := h.lo f (by simp); simp only []; omega) (by simp only []; omega) h2.2.1 (by simp [bytes]; omega)
          rcases List.mem_append.1 hx with hx | hx
          · have := h.mid_ne.1 x hx; simp only []; omega
          · rw [List.mem_singleton.1 hx]; simp only []; omega
      · split
        · exact h
        · exact h.more hr (by omega)
  · rw [if_pos hr]; exact h
theorem LOk.add (h : LOk l) (rs : List Rec) : LOk (ladd l rs).1 := by
  induction rs generalizing l with
  | nil => exact h
  | cons r t ih =>
    unfold ladd
    split
    · exact h.add1 r
    · exact ih (h.add1 r)
/-- What Size tells of the last segment. -/
theorem size_last (h : LOk l) : (dk l).size (lastN l) = match l.getLast? with | some f => (bytes f.rs).length | none => 0 := by
  rcases List.eq_nil_or_concat l with rfl | ⟨pre, f, rfl⟩
  · rfl
  · rw [List.concat_eq_append] at h ⊢
    rw [lastN_app, List.getLast?_concat]
    unfold DkS.size
    rw [dk_find (post := []) h]
    rfl
theorem find_next {n : Int} (h : LOk l) (hn : lastN l < n) : (dk l).find n = none := by
  rcases List.eq_nil_or_concat l with rfl | ⟨pre, f, rfl⟩
  · rfl
  · rw [List.concat_eq_append] at h hn ⊢
    rw [lastN_app] at hn
    refine dk_find_none fun x hx => ?_
    rcases List.mem_append.1 hx with hx | hx
    · have := h.mid_ne.1 x hx; omega
    · rw [List.mem_singleton.1 hx]; omega
theorem dk_app_new {n : Int} {r : Rec} (he : (dk l).appE n r.fr.length = 0) (hf : (dk l).find n = none) : (dk l).app n r.fr = dk (l ++ [⟨n, [r], 0⟩]) := by
  unfold DkS.app
  rw [if_pos he, hf]
  simp [dk, Lf.file, Lf.ps, bytes]
theorem dk_app_old {r : Rec} (h : LOk (pre ++ [f])) (he : (dk (pre ++ [f])).appE f.n r.fr.length = 0) : (dk (pre ++ [f])).app f.n r.fr = dk (pre ++ [⟨f.n, f.rs ++ [r], f.k⟩]) := by
  unfold DkS.app
  rw [if_pos he, dk_find (post := []) h]
  have hk := h.k f (by simp)
  have hp : (pre.map Lf.file).map (fun x => if x.n = f.n then { x with b := x.b ++ r.fr } else x) = pre.map Lf.file := by
    rw [List.map_map]
    apply List.map_congr_left
    intro x hx
    have := h.mid_ne.1 x hx
    show (if x.file.n = f.n then _ else _) = _
    exact if_neg (by show ¬ x.n = f.n; omega)
  simp only [Option.isNone_some, Bool.false_eq_true, if_false]
  unfold DkS.onF
  simp only [dk, List.map_append, List.map_cons, List.map_nil, hp, Lf.file, if_true, List.flatten_append, List.flatten_cons, List.flatten_nil, List.append_nil, Lf.ps, bytes_app, bytes_cons, bytes_nil, List.take_append_of_le_length hk, List.drop_append_of_le_length hk, List.append_assoc]
end
end Go.Proofs.YtihaajncebdioaaGreat

/-
  Add walks.
-/
set_option linter.unusedVariables false
set_option linter.unusedSimpArgs false
namespace Go.Proofs.YtihaajncebdioaaGreat
open Go Go.Sl

def toN (l : List Lf) : Int := if 4096 ≤ (dk l).size (lastN l) then lastN l + 1 else lastN l
theorem appE_len (k : Int) (n : Nat) (l : List Lf) : (dk l).appE k n = if k < 0 ∨ 1099511627776 < k then 50 else if (((dk l).find k).isNone = true ∧ 64 ≤ l.length) ∨ 1048576 < (dk l).used + n then 51 else 0 := by
  unfold DkS.appE; rw [show (dk l).fs.length = l.length from List.length_map _]
theorem ladd1_bad {l : List Lf} {r : Rec} (h : r.code ≠ 0) : ladd1 l r = (l, r.code) := by unfold ladd1; rw [if_pos h]
theorem lastN_range {l : List Lf} (ok : LOk l) : 0 ≤ lastN l ∧ lastN l ≤ 1099511627776 := by
  rcases List.eq_nil_or_concat l with rfl | ⟨pre, f, rfl⟩
  · rw [lastN_nil]; omega
  · rw [List.concat_eq_append] at ok ⊢
    rw [lastN_app]
    exact ⟨ok.lo f (by simp), ok.hi f (by simp)⟩
theorem ladd1_good {l : List Lf} (ok : LOk l) {r : Rec} (hr : r.code = 0) :
    ((dk l).appE (toN l) r.fr.length ≠ 0 → ladd1 l r = (l, 51)) ∧ ((dk l).appE (toN l) r.fr.length = 0 → (ladd1 l r).2 = 0 ∧ (dk l).app (toN l) r.fr = dk (ladd1 l r).1 ∧ lastN (ladd1 l r).1 = toN l) := by
  have hle := (Rec.good hr).fr_le
  unfold ladd1
  rw [if_neg (by simpa using hr)]
  rcases List.eq_nil_or_concat l with rfl | ⟨pre, f, rfl⟩
  · have ht : toN [] = 0 := rfl
    have he : (dk []).appE 0 r.fr.length = 0 := by
      rw [appE_len, if_neg (by omega), if_neg]
      rw [used_nil]; simp; omega
    rw [ht]
    refine ⟨fun h => absurd he h, fun _ => ⟨rfl, ?_, rfl⟩⟩
    exact dk_app_new he rfl
  · rw [List.concat_eq_append] at ok ⊢
    have hs := size_last ok
    have hlo := ok.lo f (by simp)
    have hhi := ok.hi f (by simp)
    rw [List.getLast?_concat] at hs ⊢
    simp only [List.dropLast_concat] at hs ⊢
    by_cases h4 : 4096 ≤ (bytes f.rs).length
    · have ht : toN (pre ++ [f]) = f.n + 1 := by unfold toN; rw [hs, if_pos h4, lastN_app]
      have hn := find_next ok (n := f.n + 1) (by rw [lastN_app]; omega)
      rw [ht, if_pos h4]
      by_cases hc : 1099511627776 < f.n + 1 ∨ 64 ≤ (pre ++ [f]).length ∨ 1048576 < (dk (pre ++ [f])).used + r.fr.length
      · rw [if_pos hc]
        refine ⟨fun _ => rfl, fun he => ?_⟩
        rw [appE_len, hn] at he
        simp only [Option.isNone_none, true_and] at he
        split at he
        · exact absurd he (by decide)
        · split at he
          · exact absurd he (by decide)
          · rename_i h1 h2; exfalso; rcases hc with hc | hc | hc
            · exact h1 (.inr hc)
            · exact h2 (.inl hc)
            · exact h2 (.inr hc)
      · rw [if_neg hc]
        have he : (dk (pre ++ [f])).appE (f.n + 1) r.fr.length = 0 := by
          rw [appE_len, hn, if_neg (fun h => h.elim (fun h => by omega) (fun h => hc (.inl h))), if_neg]
          simp only [Option.isNone_none, true_and]
          exact fun h => hc (.inr h)
        refine ⟨fun h => absurd he h, fun _ => ⟨rfl, dk_app_new he hn, lastN_app⟩⟩
    · have ht : toN (pre ++ [f]) = f.n := by unfold toN; rw [hs, if_neg h4, lastN_app]
      have hn := dk_find (post := []) ok.toLUp
      rw [ht, if_neg h4]
      by_cases hc : 1048576 < (dk (pre ++ [f])).used + r.fr.length
      · rw [if_pos hc]
        refine ⟨fun _ => rfl, fun he => ?_⟩
        rw [appE_len, hn, if_neg (by omega), if_pos (.inr hc)] at he
        exact absurd he (by decide)
      · rw [if_neg hc]
        have he : (dk (pre ++ [f])).appE f.n r.fr.length = 0 := by
          rw [appE_len, hn, if_neg (by omega), if_neg]
          simp only [Option.isNone_some, Bool.false_eq_true, false_and, false_or]
          exact hc
        exact ⟨fun h => absurd he h, fun _ => ⟨rfl, dk_app_old ok he, lastN_app⟩⟩
theorem ladd_cons {l : List Lf} {r : Rec} {rs : List Rec} : ladd l (r :: rs) = if (ladd1 l r).2 ≠ 0 then ladd1 l r else ladd (ladd1 l r).1 rs := rfl
theorem ladd_drop {l : List Lf} {rs : List Rec} {i : Nat} {r : Rec} (h : rs[i]? = some r) : ladd l (rs.drop i) = if (ladd1 l r).2 ≠ 0 then ladd1 l r else ladd (ladd1 l r).1 (rs.drop (i + 1)) := by
  obtain ⟨hi, e⟩ := List.getElem?_eq_some_iff.1 h
  rw [List.drop_eq_getElem_cons hi, e]
  rfl
abbrev WBk (w d : Nat) (seg torn : Int) : Hp := [(w, .cells (List.toArray [.pointer (some ⟨d, 0, none⟩), .int .i64 seg, .int .i64 torn]) 74 (0, 0))]

set_option maxHeartbeats 2000000 in
theorem add_ct {l : List Lf} (ok : LOk l) {d : Nat} {h : Hp} (hd : IsDk (dk l) d h) {rs : List Rec} {v : Value} {hx : Hp} (hr : Rs rs v hx) (hl : rs.length ≤ 1099511627776) (hz : ∀ r ∈ rs, r.size ≤ 1073741824) {w : Nat} {torn : Int} :
    Ct Tryz.prog 10 [.pointer (some ⟨w, 0, none⟩), v] [WBk w d (lastN l) torn, h, hx] (fun res H' => ∃ h', res = .int .i64 (ladd l rs).2 ∧ H' = [WBk w d (lastN (ladd l rs).1) torn, h', hx] ∧ IsDk (dk (ladd l rs).1) d h') := by
  refine Ct.mk' Tryz.func10 rfl rfl rfl (fun g R => ?_)
  try simp only [List.cons_append]
  simp only [List.nil_append]
  repeat' (first | refine go ?_ | refine mv ?_ | refine asg ?_ | (refine I.bi ?_; refine ln rfl (by assumption) ?_) | fail)
  refine W.loop (α := Nat × List Lf × Hp) (fun x => x.1 ≤ rs.length ∧ LOk x.2.1 ∧ IsDk (dk x.2.1) d x.2.2 ∧ ladd l rs = ladd x.2.1 (rs.drop x.1))
    (fun x => [(0, .pointer (some ⟨w, 0, none⟩)), (1, v), (10, v), (11, .int .i64 (rs.length : Int)), (12, .int .i64 (x.1 : Int))])
    (fun x => [WBk w d (lastN x.2.1) torn, x.2.2, hx, R]) (fun x => rs.length - x.1) (0, l, h) ⟨Nat.zero_le _, ok, hd, rfl⟩ (by repeat (first | exact Fsub.nil | refine Fsub.cons rfl ?_)) (Hsub.of_picks inferInstance) ?_
  rintro ⟨i, m, y⟩ ⟨hi, okm, hdm, he⟩
  simp only [] at hi okm hdm he ⊢
  by_cases hlt : i < rs.length
  · obtain ⟨r, hri⟩ : ∃ r, rs[i]? = some r := ⟨_, List.getElem?_eq_getElem hlt⟩
    rw [ladd_drop hri] at he
    have hsz := hz r (List.mem_of_getElem? hri)
    have hrp := recordP_ct r hsz
    have hsc := size_ct hdm (lastN m)
    by_cases hc : r.code = 0
    · have hle := (Rec.good hc).fr_le
      obtain ⟨hA, hB⟩ := ladd1_good okm hc
      rw [hc] at hrp
      have hrg := lastN_range okm
      repeat' (first | refine go ?_ | (refine I.ld ?_; first | refine lA rfl ?_ | refine lF rfl (by assumption) ?_) | (refine I.bin ?_; refine cm rfl rfl ?_) | (refine I.cond ?_; refine cP ?_) | (refine I.ix ?_; refine ix rfl rfl ?_) | (refine I.st ?_; refine sG rfl rfl ?_) | refine al (fun _ => ?_) | fail)
      refine WX.call rfl hrp rfl ?_
      rintro _ _ ⟨u2, h2, rfl, rfl, hs2⟩
      simp only [List.cons_append, List.nil_append]
      have hap := fun k => append_ct hdm k hs2.rs (by omega) okm.used (by rw [okm.fs_len]; exact okm.len) okm.loose
      have htn : toN m = if 4096 ≤ (dk m).size (lastN m) then lastN m + 1 else lastN m := rfl
      by_cases h4 : 4096 ≤ (dk m).size (lastN m)
      · rw [if_pos h4] at htn
        rw [htn] at hA hB
        repeat' (first | refine go ?_ | refine mv ?_ | (refine I.ld ?_; refine ld rfl ?_) | refine asg ?_ | (refine I.fa ?_; refine fa ?_) | (refine I.nc ?_; refine nc ?_) | (refine I.bin ?_; refine cm rfl rfl ?_) | (refine I.cond ?_; refine cF ?_) | refine ex ?_ | fail)
        refine WX.callQ rfl hsc rfl ?_
        repeat' (first | refine go ?_ | refine mv ?_ | (refine I.ld ?_; refine ld rfl ?_) | refine asg ?_ | (refine I.fa ?_; refine fa ?_) | (refine I.nc ?_; refine nc ?_) | (refine I.bin ?_; first | refine cm rfl rfl ?_ | refine ad ?_) | (refine I.cond ?_; refine cP ?_) | fail)
        refine WX.call rfl (hap (lastN m + 1)) rfl ?_
        rintro _ _ ⟨y', rfl, rfl, hdy⟩
        simp only [List.cons_append, List.nil_append]
        by_cases hE : (dk m).appE (lastN m + 1) r.fr.length = 0
        · obtain ⟨e1, e2, e3⟩ := hB hE
          rw [e2] at hdy
          rw [if_neg (by rw [e1]; decide)] at he
          have ok1 := okm.add1 r
          repeat' (first | refine go ?_ | refine mv ?_ | (refine I.fa ?_; refine fa ?_) | (refine I.nc ?_; refine nc ?_) | (refine I.bin ?_; first | refine cm rfl rfl ?_ | refine ad ?_) | (refine I.cond ?_; refine cN ?_) | (refine I.st ?_; refine st rfl rfl ?_) | fail)
          rw [← e3]
          exact D.round (i + 1, (ladd1 m r).1, y') ⟨by simp only []; omega, ok1, hdy, he⟩ (by simp only []; omega) (by repeat (first | exact Fsub.nil | refine Fsub.cons rfl ?_)) (Hsub.of_picks inferInstance)
        · have e1 := hA hE
          rw [e1, if_pos (show (51 : Int) ≠ 0 by decide)] at he
          have e2 : (dk m).app (lastN m + 1) r.fr = dk m := by unfold DkS.app; rw [if_neg hE]
          rw [e2] at hdy
          repeat' (first | refine go ?_ | refine asg ?_ | (refine I.bin ?_; refine cm rfl rfl ?_) | (refine I.cond ?_; refine cP ?_) | fail)
          exact D.fin1 [WBk w d (lastN m) torn, y', hx] _ rfl rfl ⟨y', by rw [he], by rw [he], by rw [he]; exact hdy⟩
      · rw [if_neg h4] at htn
        rw [htn] at hA hB
        repeat' (first | refine go ?_ | refine mv ?_ | (refine I.ld ?_; refine ld rfl ?_) | refine asg ?_ | (refine I.fa ?_; refine fa ?_) | (refine I.nc ?_; refine nc ?_) | (refine I.bin ?_; refine cm rfl rfl ?_) | (refine I.cond ?_; refine cF ?_) | refine ex ?_ | fail)
        refine WX.callQ rfl hsc rfl ?_
        repeat' (first | refine go ?_ | refine mv ?_ | (refine I.ld ?_; refine ld rfl ?_) | (refine I.fa ?_; refine fa ?_) | (refine I.nc ?_; refine nc ?_) | (refine I.bin ?_; refine cm rfl rfl ?_) | (refine I.cond ?_; refine cN ?_) | fail)
        refine WX.call rfl (hap (lastN m)) rfl ?_
        rintro _ _ ⟨y', rfl, rfl, hdy⟩
        simp only [List.cons_append, List.nil_append]
        by_cases hE : (dk m).appE (lastN m) r.fr.length = 0
        · obtain ⟨e1, e2, e3⟩ := hB hE
          rw [e2] at hdy
          rw [if_neg (by rw [e1]; decide)] at he
          have ok1 := okm.add1 r
          repeat' (first | refine go ?_ | refine mv ?_ | (refine I.fa ?_; refine fa ?_) | (refine I.nc ?_; refine nc ?_) | (refine I.bin ?_; first | refine cm rfl rfl ?_ | refine ad ?_) | (refine I.cond ?_; refine cN ?_) | (refine I.st ?_; refine st rfl rfl ?_) | fail)
          rw [← e3]
          exact D.round (i + 1, (ladd1 m r).1, y') ⟨by simp only []; omega, ok1, hdy, he⟩ (by simp only []; omega) (by repeat (first | exact Fsub.nil | refine Fsub.cons rfl ?_)) (Hsub.of_picks inferInstance)
        · have e1 := hA hE
          rw [e1, if_pos (show (51 : Int) ≠ 0 by decide)] at he
          have e2 : (dk m).app (lastN m) r.fr = dk m := by unfold DkS.app; rw [if_neg hE]
          rw [e2] at hdy
          repeat' (first | refine go ?_ | refine asg ?_ | (refine I.bin ?_; refine cm rfl rfl ?_) | (refine I.cond ?_; refine cP ?_) | fail)
          exact D.fin1 [WBk w d (lastN m) torn, y', hx] _ rfl rfl ⟨y', by rw [he], by rw [he], by rw [he]; exact hdy⟩
    · rw [ladd1_bad hc, if_pos hc] at he
      repeat' (first | refine go ?_ | (refine I.ld ?_; first | refine lA rfl ?_ | refine lF rfl (by assumption) ?_) | (refine I.bin ?_; refine cm rfl rfl ?_) | (refine I.cond ?_; refine cP ?_) | (refine I.ix ?_; refine ix rfl rfl ?_) | (refine I.st ?_; refine sG rfl rfl ?_) | refine al (fun _ => ?_) | fail)
      refine WX.call rfl hrp rfl ?_
      rintro _ _ ⟨u2, h2, rfl, rfl, hs2⟩
      simp only [List.cons_append, List.nil_append]
      repeat' (first | refine go ?_ | refine mv ?_ | refine asg ?_ | (refine I.bin ?_; refine cm rfl rfl ?_) | (refine I.cond ?_; refine cP ?_) | refine ex ?_ | fail)
      exact D.fin1 [WBk w d (lastN m) torn, y, hx] _ rfl rfl ⟨y, by rw [he], by rw [he], by rw [he]; exact hdm⟩
  · have hlen : rs.drop i = [] := List.drop_eq_nil_of_le (by omega)
    rw [hlen] at he
    repeat' (first | refine go ?_ | refine asg ?_ | (refine I.bin ?_; refine cm rfl rfl ?_) | (refine I.cond ?_; refine cN ?_) | fail)
    exact D.fin1 [WBk w d (lastN m) torn, y, hx] _ rfl rfl ⟨y, by rw [he]; rfl, by rw [he]; rfl, by rw [he]; exact hdm⟩
end Go.Proofs.YtihaajncebdioaaGreat

/-
  Sync and Cut walk.
-/
set_option linter.unusedVariables false
set_option linter.unusedSimpArgs false
namespace Go.Proofs.YtihaajncebdioaaGreat
open Go Go.Sl

def Lf.full (f : Lf) : Lf := ⟨f.n, f.rs, f.rs.length⟩
def lsync (l : List Lf) : List Lf := l.map Lf.full
theorem Lf.full_ps (f : Lf) : f.full.ps = [] := by unfold Lf.full Lf.ps; simp
theorem full_ps (l : List Lf) : ((l.map Lf.full).map Lf.ps).flatten = [] := by
  rw [List.flatten_eq_nil_iff]
  intro x hx
  obtain ⟨y, hy, rfl⟩ := List.mem_map.1 hx
  obtain ⟨z, hz, rfl⟩ := List.mem_map.1 hy
  exact z.full_ps
theorem LOk.full {pre post : List Lf} (h : LOk (pre ++ post)) : LOk (pre.map Lf.full ++ post) where
  up := by
    have := h.up
    rw [List.pairwise_append] at this ⊢
    refine ⟨List.pairwise_map.2 this.1, this.2.1, fun a ha b hb => ?_⟩
    obtain ⟨a', ha', rfl⟩ := List.mem_map.1 ha
    exact this.2.2 a' ha' b hb
  good := fun f hf => by
    rcases List.mem_append.1 hf with hf | hf
    · obtain ⟨a', ha', rfl⟩ := List.mem_map.1 hf
      exact h.good a' (List.mem_append_left _ ha')
    · exact h.good f (List.mem_append_right _ hf)
  k := fun f hf => by
    rcases List.mem_append.1 hf with hf | hf
    · obtain ⟨a', ha', rfl⟩ := List.mem_map.1 hf
      exact Nat.le_refl _
    · exact h.k f (List.mem_append_right _ hf)
  tail := by
    have := h.tail
    rw [List.pairwise_append] at this ⊢
    refine ⟨List.pairwise_map.2 (this.1.imp fun _ hlt => absurd hlt (Nat.lt_irrefl _)), this.2.1, fun a ha b hb hlt => ?_⟩
    obtain ⟨a', ha', rfl⟩ := List.mem_map.1 ha
    exact absurd hlt (Nat.lt_irrefl _)
  lo := fun f hf => by
    rcases List.mem_append.1 hf with hf | hf
    · obtain ⟨a', ha', rfl⟩ := List.mem_map.1 hf
      exact h.lo a' (List.mem_append_left _ ha')
    · exact h.lo f (List.mem_append_right _ hf)
  hi := fun f hf => by
    rcases List.mem_append.1 hf with hf | hf
    · obtain ⟨a', ha', rfl⟩ := List.mem_map.1 hf
      exact h.hi a' (List.mem_append_left _ ha')
    · exact h.hi f (List.mem_append_right _ hf)
  used := by
    have := h.used
    rw [dk_used] at this ⊢
    simp only [List.map_append, List.sum_append, List.map_map] at this ⊢
    exact this
  len := by have := h.len; simp only [List.length_append, List.length_map] at this ⊢; exact this
theorem LOk.sync {l : List Lf} (h : LOk l) : LOk (lsync l) := by
  have := LOk.full (pre := l) (post := []) (by simpa using h)
  simpa [lsync] using this
theorem lastN_sync (l : List Lf) : lastN (lsync l) = lastN l := by
  rcases List.eq_nil_or_concat l with rfl | ⟨pre, f, rfl⟩
  · rfl
  · rw [List.concat_eq_append]
    unfold lsync
    rw [List.map_append, List.map_cons, List.map_nil, lastN_app, lastN_app]
    rfl
theorem ps_name {f : Lf} {p : Pc} (h : p ∈ f.ps) : p.f = f.n := by
  unfold Lf.ps at h
  obtain ⟨r, _, rfl⟩ := List.mem_map.1 h
  rfl
theorem ps_other {l : List Lf} {n : Int} (h : ∀ f ∈ l, f.n ≠ n) : ((l.map Lf.ps).flatten.filter fun p => decide (p.f ≠ n)) = (l.map Lf.ps).flatten := by
  rw [List.filter_eq_self]
  intro p hp
  obtain ⟨x, hx, hpx⟩ := List.mem_flatten.1 hp
  obtain ⟨f, hf, rfl⟩ := List.mem_map.1 hx
  rw [ps_name hpx]
  exact decide_eq_true (h f hf)
theorem ps_same {f : Lf} {n : Int} (h : f.n = n) : (f.ps.filter fun p => decide (p.f ≠ n)) = [] := by
  rw [List.filter_eq_nil_iff]
  intro p hp
  rw [ps_name hp]
  simp [h]
theorem dk_sync {pre post : List Lf} {f : Lf} (h : LUp (pre ++ f :: post)) : (dk (pre ++ f :: post)).sync f.n = dk (pre ++ f.full :: post) := by
  unfold DkS.sync
  rw [dk_find h]
  have hm := h.mid_ne
  have h1 : ∀ (l : List Lf), (∀ x ∈ l, x.n ≠ f.n) → (l.map Lf.file).map (fun x => if x.n = f.n then { x with s := x.b.length } else x) = l.map Lf.file := by
    intro l hl
    rw [List.map_map]
    apply List.map_congr_left
    intro x hx
    exact if_neg (hl x hx)
  have h2 := h1 pre fun x hx => by have := hm.1 x hx; omega
  have h3 := h1 post fun x hx => by have := hm.2 x hx; omega
  have h4 := ps_other (l := pre) (n := f.n) fun x hx => by have := hm.1 x hx; omega
  have h5 := ps_other (l := post) (n := f.n) fun x hx => by have := hm.2 x hx; omega
  simp only [Option.isNone_some, Bool.false_eq_true, if_false]
  unfold DkS.onF dk
  simp only [List.map_append, List.map_cons, h2, h3, List.flatten_append, List.flatten_cons, List.filter_append, h4, h5, ps_same rfl, Lf.full_ps, List.nil_append]
  congr 3
  have h6 : f.file.n = f.n := rfl
  refine (if_pos h6).trans ?_
  simp [Lf.file, Lf.full]
theorem dk_remove {post : List Lf} {f : Lf} (h : LUp (f :: post)) : (dk (f :: post)).remove f.n = dk post := by
  unfold DkS.remove
  rw [show (dk (f :: post)).find f.n = some f.file from dk_find (pre := []) h]
  have hm := (LUp.mid_ne (pre := []) h).2
  simp only [Option.isNone_some, Bool.false_eq_true, if_false]
  have h5 := ps_other (l := post) (n := f.n) fun x hx => by have := hm x hx; omega
  unfold dk
  simp only [List.map_cons, List.flatten_cons, List.filter_append, h5, ps_same rfl, List.nil_append]
  rw [List.filter_cons_of_neg (by simp [Lf.file])]
  congr 1
  rw [List.filter_eq_self]
  intro x hx
  obtain ⟨y, hy, rfl⟩ := List.mem_map.1 hx
  have := hm y hy
  exact decide_eq_true (by show y.n ≠ f.n; omega)
theorem LUp.tl {post : List Lf} {f : Lf} (h : LUp (f :: post)) : LUp post where
  up := (List.pairwise_cons.1 h.up).2
  good := fun x hx => h.good x (List.mem_cons_of_mem _ hx)
  k := fun x hx => h.k x (List.mem_cons_of_mem _ hx)
  lo := fun x hx => h.lo x (List.mem_cons_of_mem _ hx)
  hi := fun x hx => h.hi x (List.mem_cons_of_mem _ hx)
  used := by have := h.used; rw [dk_used] at this ⊢; simp only [List.map_cons, List.sum_cons] at this; omega
  len := by have := h.len; rw [List.length_cons] at this; omega
theorem LOk.tl {post : List Lf} {f : Lf} (h : LOk (f :: post)) : LOk post := ⟨h.toLUp.tl, (List.pairwise_cons.1 h.tail).2⟩
theorem dk_synced {pre post : List Lf} {f : Lf} (h : LUp (pre ++ f :: post)) : (dk (pre ++ f :: post)).synced f.n = (bytes (f.rs.take f.k)).length ∧ (dk (pre ++ f :: post)).size f.n = (bytes f.rs).length := by
  unfold DkS.synced DkS.size
  rw [dk_find h]
  exact ⟨rfl, rfl⟩
theorem full_of {f : Lf} (hg : ∀ r ∈ f.rs, r.code = 0) (hk : f.k ≤ f.rs.length) (h : ¬ (bytes (f.rs.take f.k)).length < (bytes f.rs).length) : f.full = f := by
  have h1 := bytes_take_drop f.rs f.k
  have h2 : (bytes (f.rs.drop f.k)).length = 0 := by
    have := congrArg List.length h1
    rw [List.length_append] at this; omega
  have h3 : f.rs.drop f.k = [] := by
    cases hd : f.rs.drop f.k with
    | nil => rfl
    | cons r t =>
      have := bytes_pos (rs := f.rs.drop f.k) (fun r hr => hg r (List.mem_of_mem_drop hr)) (by rw [hd]; simp)
      omega
  have h4 : f.rs.length ≤ f.k := List.drop_eq_nil_iff.1 h3
  obtain ⟨n, rs, k⟩ := f
  simp only [] at h4 hk
  unfold Lf.full
  simp only [Lf.mk.injEq, true_and]; omega

set_option maxHeartbeats 2000000 in
theorem sync_ct {l : List Lf} (ok : LOk l) {d : Nat} {h : Hp} (hd : IsDk (dk l) d h) {w : Nat} {seg torn : Int} :
    Ct Tryz.prog 11 [.pointer (some ⟨w, 0, none⟩)] [WBk w d seg torn, h] (fun res H' => ∃ h', res = .int .i64 0 ∧ H' = [WBk w d seg torn, h'] ∧ IsDk (dk (lsync l)) d h') := by
  have hfc := files_ct hd (by rw [ok.fs_len]; have := ok.len; omega)
  rw [dk_names ok] at hfc
  have hll := ok.len
  have hnl : (l.map (·.n)).length = l.length := List.length_map _
  refine Ct.mk' Tryz.func11 rfl rfl rfl (fun g R => ?_)
  try simp only [List.cons_append]
  simp only [List.nil_append]
  repeat' (first | refine go ?_ | refine mv ?_ | (refine I.ld ?_; refine ld rfl ?_) | refine asg ?_ | (refine I.fa ?_; refine fa ?_) | (refine I.nc ?_; refine nc ?_) | fail)
  refine WX.call rfl hfc rfl ?_
  rintro u _ ⟨hb, rfl, hs⟩
  have hr := hs.rs
  simp only [List.cons_append, List.nil_append]
  repeat' (first | refine go ?_ | refine mv ?_ | (refine I.bi ?_; refine ln rfl (by assumption) ?_) | fail)
  refine W.loop (α := Nat × Hp) (fun x => x.1 ≤ l.length ∧ IsDk (dk ((l.take x.1).map Lf.full ++ l.drop x.1)) d x.2)
    (fun x => [(0, .pointer (some ⟨w, 0, none⟩)), (9, u), (10, .int .i64 ((l.map (·.n)).length : Int)), (11, .int .i64 (x.1 : Int))])
    (fun x => [WBk w d seg torn, x.2, hb, R]) (fun x => l.length - x.1) (0, h) ⟨Nat.zero_le _, by simpa using hd⟩ (by repeat (first | exact Fsub.nil | refine Fsub.cons rfl ?_)) (Hsub.of_picks inferInstance) ?_
  rintro ⟨i, y⟩ ⟨hi, hdm⟩
  simp only [] at hi hdm ⊢
  by_cases hlt : i < l.length
  · obtain ⟨f, hf⟩ : ∃ f, l[i]? = some f := ⟨_, List.getElem?_eq_getElem hlt⟩
    have hn : (l.map (·.n))[i]? = some f.n := by rw [List.getElem?_map, hf]; rfl
    have hdr : l.drop i = f :: l.drop (i + 1) := by
      rw [List.drop_eq_getElem_cons hlt, (List.getElem?_eq_some_iff.1 hf).2]
    have htk : (l.take (i + 1)).map Lf.full = (l.take i).map Lf.full ++ [f.full] := by
      rw [List.take_succ_eq_append_getElem hlt, (List.getElem?_eq_some_iff.1 hf).2, List.map_append]; rfl
    have okm : LOk ((l.take i).map Lf.full ++ l.drop i) := LOk.full (by rw [List.take_append_drop]; exact ok)
    rw [hdr] at okm hdm
    have hsc := synced_ct hdm f.n
    have hzc := size_ct hdm f.n
    have hyc := dsync_ct hdm f.n okm.loose
    obtain ⟨e1, e2⟩ := dk_synced okm.toLUp
    rw [e1] at hsc
    rw [e2] at hzc
    rw [dk_sync okm.toLUp] at hyc
    have hl1 := bytes_take_le f.rs f.k
    repeat' (first | refine go ?_ | (refine I.ld ?_; refine lE rfl (by assumption) ?_) | refine asg ?_ | (refine I.bin ?_; refine cm rfl rfl ?_) | (refine I.cond ?_; refine cP ?_) | (refine I.ix ?_; refine ix rfl rfl ?_) | fail)
    refine W.quiet Tryz.mix (by kernel_rfl) ?_
    repeat' (first | refine mv ?_ | (refine I.ld ?_; refine ld rfl ?_) | (refine I.fa ?_; refine fa ?_) | (refine I.nc ?_; refine nc ?_) | fail)
    refine WX.callQ rfl hsc rfl ?_
    repeat' (first | refine mv ?_ | (refine I.ld ?_; refine ld rfl ?_) | (refine I.fa ?_; refine fa ?_) | (refine I.nc ?_; refine nc ?_) | fail)
    refine WX.callQ rfl hzc rfl ?_
    have hnext : (l.take (i + 1)).map Lf.full ++ l.drop (i + 1) = (l.take i).map Lf.full ++ f.full :: l.drop (i + 1) := by rw [htk]; simp
    by_cases hq : (bytes (f.rs.take f.k)).length < (bytes f.rs).length
    · repeat' (first | refine go ?_ | refine mv ?_ | (refine I.ld ?_; refine ld rfl ?_) | (refine I.fa ?_; refine fa ?_) | (refine I.nc ?_; refine nc ?_) | (refine I.bin ?_; refine cm rfl rfl ?_) | (refine I.cond ?_; refine cP ?_) | fail)
      refine WX.call rfl hyc rfl ?_
      rintro _ _ ⟨y', rfl, rfl, hdy⟩
      simp only [List.cons_append, List.nil_append]
      repeat' (first | refine go ?_ | refine mv ?_ | (refine I.bin ?_; refine ad ?_) | fail)
      exact D.round (i + 1, y') ⟨by simp only []; omega, by simp only []; rw [hnext]; exact hdy⟩ (by simp only []; omega) (by repeat (first | exact Fsub.nil | refine Fsub.cons rfl ?_)) (Hsub.of_picks inferInstance)
    · have hfu := full_of (ok.good f (List.mem_of_getElem? hf)) (ok.k f (List.mem_of_getElem? hf)) hq
      repeat' (first | refine go ?_ | refine mv ?_ | (refine I.bin ?_; first | refine cm rfl rfl ?_ | refine ad ?_) | (refine I.cond ?_; refine cN ?_) | fail)
      exact D.round (i + 1, y) ⟨by simp only []; omega, by simp only []; rw [hnext, hfu]; exact hdm⟩ (by simp only []; omega) (by repeat (first | exact Fsub.nil | refine Fsub.cons rfl ?_)) (Hsub.of_picks inferInstance)
  · obtain rfl : i = l.length := by omega
    rw [List.take_length, List.drop_length, List.append_nil] at hdm
    repeat' (first | refine go ?_ | refine asg ?_ | (refine I.bin ?_; refine cm rfl rfl ?_) | (refine I.cond ?_; refine cN ?_) | fail)
    exact D.fin1 [WBk w d seg torn, y] _ rfl rfl ⟨y, rfl, rfl, hdm⟩
end Go.Proofs.YtihaajncebdioaaGreat

/-
  Cut walks.
-/
set_option linter.unusedVariables false
set_option linter.unusedSimpArgs false
namespace Go.Proofs.YtihaajncebdioaaGreat
open Go Go.Sl

def cutR : Rec := ⟨3, Ent.z, Cfg.z, 0⟩
theorem cutR_code : cutR.code = 0 := rfl
def lcut (l : List Lf) : List Lf × Int := if (dk l).appE (lastN l + 1) cutR.fr.length ≠ 0 then (l, 51) else ([⟨lastN l + 1, [cutR], 1⟩], 0)
theorem LOk.last {pre : List Lf} {f : Lf} (h : LOk (pre ++ [f])) : LOk [f] := by
  induction pre with
  | nil => exact h
  | cons x t ih => exact ih h.tl
theorem LUp.suf {pre post : List Lf} (h : LUp (pre ++ post)) : LUp post := by
  induction pre with
  | nil => exact h
  | cons x t ih => exact ih h.tl
theorem LUp.setK {l : List Lf} {n : Int} {rs : List Rec} {k : Nat} (h : LUp (l ++ [⟨n, rs, k⟩])) : LUp (l ++ [⟨n, rs, rs.length⟩]) where
  up := by
    have := h.up
    rw [List.pairwise_append] at this ⊢
    exact ⟨this.1, List.pairwise_singleton .., fun a ha b hb => by rw [List.mem_singleton.1 hb]; exact this.2.2 a ha ⟨n, rs, k⟩ (List.mem_singleton.2 rfl)⟩
  good := fun f hf => by
    rcases List.mem_append.1 hf with hf | hf
    · exact h.good f (List.mem_append_left _ hf)
    · rw [List.mem_singleton.1 hf]; exact h.good ⟨n, rs, k⟩ (by simp)
  k := fun f hf => by
    rcases List.mem_append.1 hf with hf | hf
    · exact h.k f (List.mem_append_left _ hf)
    · rw [List.mem_singleton.1 hf]; exact Nat.le_refl _
  lo := fun f hf => by
    rcases List.mem_append.1 hf with hf | hf
    · exact h.lo f (List.mem_append_left _ hf)
    · rw [List.mem_singleton.1 hf]; exact h.lo ⟨n, rs, k⟩ (by simp)
  hi := fun f hf => by
    rcases List.mem_append.1 hf with hf | hf
    · exact h.hi f (List.mem_append_left _ hf)
    · rw [List.mem_singleton.1 hf]; exact h.hi ⟨n, rs, k⟩ (by simp)
  used := by
    have := h.used
    rw [dk_used] at this ⊢
    simpa using this
  len := by have := h.len; simpa using this
theorem lcut_new {l : List Lf} (ok : LOk l) (he : (dk l).appE (lastN l + 1) cutR.fr.length = 0) : LOk (l ++ [⟨lastN l + 1, [cutR], 0⟩]) ∧ (dk l).app (lastN l + 1) cutR.fr = dk (l ++ [⟨lastN l + 1, [cutR], 0⟩]) := by
  have hn := find_next ok (n := lastN l + 1) (by omega)
  have hrg := lastN_range ok
  refine ⟨?_, dk_app_new he hn⟩
  rw [appE_len, hn] at he
  simp only [Option.isNone_none, true_and] at he
  split at he
  · exact absurd he (by decide)
  · split at he
    · exact absurd he (by decide)
    · rename_i h1 h2
      refine ok.app (fun x hx => ?_) (by intro r hr; rw [List.mem_singleton.1 hr]; rfl) rfl (by simp only []; omega) (by simp only []; omega) (by omega) (by simp [bytes]; omega)
      obtain ⟨pre, post, rfl⟩ := List.append_of_mem hx
      rcases List.eq_nil_or_concat post with rfl | ⟨q, z, rfl⟩
      · rw [lastN_app]; simp only []; omega
      · have h3 := ok.mid_ne.2
        rw [List.concat_eq_append] at h3 ⊢
        have h4 := h3 z (by simp)
        have : lastN (pre ++ x :: (q ++ [z])) = z.n := by
          rw [show pre ++ x :: (q ++ [z]) = (pre ++ x :: q) ++ [z] from by simp, lastN_app]
        rw [this]; simp only []; omega
theorem LOk.cut {l : List Lf} (ok : LOk l) : LOk (lcut l).1 := by
  unfold lcut
  by_cases he : (dk l).appE (lastN l + 1) cutR.fr.length = 0
  · rw [if_neg (by simpa using he)]
    have h1 := (lcut_new ok he).1.last
    have h2 := LOk.sync h1
    exact h2
  · rw [if_pos he]; exact ok

set_option maxHeartbeats 2000000 in
theorem cut_ct {l : List Lf} (ok : LOk l) {d : Nat} {h : Hp} (hd : IsDk (dk l) d h) {w : Nat} {torn : Int} :
    Ct Tryz.prog 18 [.pointer (some ⟨w, 0, none⟩)] [WBk w d (lastN l) torn, h] (fun res H' => ∃ h', res = .int .i64 (lcut l).2 ∧ H' = [WBk w d (lastN (lcut l).1) torn, h'] ∧ IsDk (dk (lcut l).1) d h') := by
  have hrp := recordP_ct cutR (by decide)
  rw [cutR_code] at hrp
  have hle := (Rec.good cutR_code).fr_le
  have hrg := lastN_range ok
  refine Ct.mk' Tryz.func18 rfl rfl rfl (fun g R => ?_)
  try simp only [List.cons_append]
  simp only [List.nil_append]
  repeat' (first | refine go ?_ | refine asg ?_ | refine bd ?_ | fail)
  refine WX.as 8 (.agg cutR.enc.toArray) rfl rfl ?_
  refine WX.call rfl hrp rfl ?_
  rintro _ _ ⟨u, hb, rfl, rfl, hs⟩
  simp only [List.cons_append, List.nil_append]
  have hap := append_ct hd (lastN l + 1) hs.rs (by omega) ok.used (by rw [ok.fs_len]; exact ok.len) ok.loose
  repeat' (first | refine go ?_ | refine mv ?_ | refine asg ?_ | refine ex ?_ | fail)
  refine W.mix (List.replicate 10 true ++ [false, true]) [WBk w d (lastN l) torn] Tryz.mix (by kernel_rfl) ?_
  repeat' (first | refine go ?_ | refine mv ?_ | (refine I.ld ?_; refine ld rfl ?_) | (refine I.fa ?_; refine fa ?_) | (refine I.nc ?_; refine nc ?_) | (refine I.bin ?_; refine ad ?_) | refine mU ?_ | refine mA ?_ | fail)
  refine WX.call rfl hap rfl ?_
  rintro _ _ ⟨y, rfl, rfl, hdy⟩
  simp only [List.cons_append, List.nil_append]
  by_cases hE : (dk l).appE (lastN l + 1) cutR.fr.length = 0
  · have hlc : lcut l = ([⟨lastN l + 1, [cutR], 1⟩], 0) := by unfold lcut; rw [if_neg (by simpa using hE)]
    obtain ⟨okn, e1⟩ := lcut_new ok hE
    rw [e1] at hdy
    have hsy := dsync_ct hdy (lastN l + 1) okn.loose
    rw [show (dk (l ++ [⟨lastN l + 1, [cutR], 0⟩])).sync (lastN l + 1) = dk (l ++ [⟨lastN l + 1, [cutR], 1⟩]) from dk_sync (post := []) (f := ⟨lastN l + 1, [cutR], 0⟩) okn.toLUp] at hsy
    have okc : LUp (l ++ [⟨lastN l + 1, [cutR], 1⟩]) := okn.toLUp.setK
    have hll := okc.len
    have hll' : l.length + 1 ≤ 64 := by simpa using hll
    have hnl : ((l ++ [(⟨lastN l + 1, [cutR], 1⟩ : Lf)]).map (·.n)).length = l.length + 1 := by simp
    repeat' (first | refine go ?_ | refine mv ?_ | (refine I.ld ?_; refine ld rfl ?_) | (refine I.fa ?_; refine fa ?_) | (refine I.nc ?_; refine nc ?_) | (refine I.bin ?_; first | refine cm rfl rfl ?_ | refine ad ?_) | (refine I.cond ?_; refine cN ?_) | refine mN ?_ | refine WX.nil ?_ | refine mU ?_ | (refine I.st ?_; refine st rfl rfl ?_) | fail)
    refine W.mix (List.replicate 8 true) [WBk w d (lastN l + 1) torn] Tryz.mix (by kernel_rfl) ?_
    repeat' (first | refine go ?_ | refine mv ?_ | (refine I.ld ?_; refine ld rfl ?_) | (refine I.fa ?_; refine fa ?_) | (refine I.nc ?_; refine nc ?_) | refine mN ?_ | refine mU ?_ | fail)
    refine WX.call rfl hsy rfl ?_
    rintro _ _ ⟨y2, rfl, rfl, hd2⟩
    have hfc := files_ct hd2 (by rw [okc.fs_len]; omega)
    rw [dk_names okc] at hfc
    simp only [List.cons_append, List.nil_append]
    repeat' (first | refine go ?_ | refine mv ?_ | (refine I.ld ?_; refine ld rfl ?_) | (refine I.fa ?_; refine fa ?_) | (refine I.nc ?_; refine nc ?_) | fail)
    refine WX.call rfl hfc rfl ?_
    rintro u2 _ ⟨hb2, rfl, hs2⟩
    have hr2 := hs2.rs
    simp only [List.cons_append, List.nil_append]
    repeat' (first | refine go ?_ | refine mv ?_ | (refine I.bi ?_; refine ln rfl (by assumption) ?_) | fail)
    refine W.loop (α := Nat × Hp) (fun x => x.1 ≤ l.length + 1 ∧ IsDk (dk (l.drop x.1 ++ [⟨lastN l + 1, [cutR], 1⟩])) d x.2)
      (fun x => [(0, .pointer (some ⟨w, 0, none⟩)), (44, u2), (45, .int .i64 (((l ++ [(⟨lastN l + 1, [cutR], 1⟩ : Lf)]).map (·.n)).length : Int)), (46, .int .i64 (x.1 : Int))])
      (fun x => [WBk w d (lastN l + 1) torn, x.2, hb2, R]) (fun x => l.length + 1 - x.1) (0, y2) ⟨Nat.zero_le _, by simpa using hd2⟩ (by repeat (first | exact Fsub.nil | refine Fsub.cons rfl ?_)) (Hsub.of_picks inferInstance) ?_
    rintro ⟨i, z⟩ ⟨hi, hdz⟩
    simp only [] at hi hdz ⊢
    by_cases hlt : i < l.length
    · obtain ⟨f, hf⟩ : ∃ f, l[i]? = some f := ⟨_, List.getElem?_eq_getElem hlt⟩
      have hn : ((l ++ [(⟨lastN l + 1, [cutR], 1⟩ : Lf)]).map (·.n))[i]? = some f.n := by rw [List.getElem?_map, List.getElem?_append_left hlt, hf]; rfl
      have hdr : l.drop i = f :: l.drop (i + 1) := by
        rw [List.drop_eq_getElem_cons hlt, (List.getElem?_eq_some_iff.1 hf).2]
      have okm : LUp (l.drop i ++ [⟨lastN l + 1, [cutR], 1⟩]) := by
        refine LUp.suf (pre := l.take i) ?_
        rw [← List.append_assoc, List.take_append_drop]
        exact okc
      rw [hdr, List.cons_append] at okm hdz
      have hrm := dremove_ct hdz f.n okm.loose
      rw [dk_remove okm] at hrm
      have hne : f.n < lastN l + 1 := (LUp.mid_ne (pre := []) okm).2 ⟨lastN l + 1, [cutR], 1⟩ (by simp)
      repeat' (first | refine go ?_ | refine mv ?_ | (refine I.ld ?_; first | refine ld rfl ?_ | refine lE rfl (by assumption) ?_) | refine asg ?_ | (refine I.fa ?_; refine fa ?_) | (refine I.nc ?_; refine nc ?_) | (refine I.bin ?_; refine cm rfl rfl ?_) | (refine I.cond ?_; refine cP ?_) | (refine I.ix ?_; refine ix rfl rfl ?_) | fail)
      refine WX.call rfl hrm rfl ?_
      rintro _ _ ⟨z', rfl, rfl, hdz'⟩
      simp only [List.cons_append, List.nil_append]
      repeat' (first | refine go ?_ | refine mv ?_ | (refine I.bin ?_; refine ad ?_) | fail)
      exact D.round (i + 1, z') ⟨by simp only []; omega, hdz'⟩ (by simp only []; omega) (by repeat (first | exact Fsub.nil | refine Fsub.cons rfl ?_)) (Hsub.of_picks inferInstance)
    · by_cases hlt2 : i = l.length
      · subst hlt2
        have hn : ((l ++ [(⟨lastN l + 1, [cutR], 1⟩ : Lf)]).map (·.n))[l.length]? = some (lastN l + 1) := by rw [List.getElem?_map, List.getElem?_append_right (Nat.le_refl _)]; simp
        rw [List.drop_length] at hdz
        repeat' (first | refine go ?_ | refine mv ?_ | (refine I.ld ?_; first | refine ld rfl ?_ | refine lE rfl (by assumption) ?_) | refine asg ?_ | (refine I.fa ?_; refine fa ?_) | (refine I.nc ?_; refine nc ?_) | (refine I.bin ?_; first | refine cm rfl rfl ?_ | refine ad ?_) | (refine I.cond ?_; first | refine cP ?_ | refine cN ?_) | (refine I.ix ?_; refine ix rfl rfl ?_) | fail)
        exact D.round (l.length + 1, z) ⟨by simp only []; omega, by simp only []; rw [List.drop_eq_nil_of_le (by omega)]; exact hdz⟩ (by simp only []; omega) (by repeat (first | exact Fsub.nil | refine Fsub.cons rfl ?_)) (Hsub.of_picks inferInstance)
      · have hdn : l.drop i = [] := List.drop_eq_nil_of_le (by omega)
        rw [hdn] at hdz
        repeat' (first | refine go ?_ | refine asg ?_ | (refine I.bin ?_; refine cm rfl rfl ?_) | (refine I.cond ?_; refine cN ?_) | fail)
        exact D.fin1 [WBk w d (lastN l + 1) torn, z] _ rfl rfl ⟨z, by rw [hlc], by rw [hlc]; rfl, by rw [hlc]; exact hdz⟩
  · have hlc : lcut l = (l, 51) := by unfold lcut; rw [if_pos hE]
    have e2 : (dk l).app (lastN l + 1) cutR.fr = dk l := by unfold DkS.app; rw [if_neg hE]
    rw [e2] at hdy
    repeat' (first | refine go ?_ | refine asg ?_ | (refine I.bin ?_; refine cm rfl rfl ?_) | (refine I.cond ?_; refine cP ?_) | refine mN ?_ | refine WX.nil ?_ | refine mU ?_ | fail)
    exact D.fin1 [WBk w d (lastN l) torn, y] _ rfl rfl ⟨y, by rw [hlc], by rw [hlc], by rw [hlc]; exact hdy⟩
end Go.Proofs.YtihaajncebdioaaGreat

/-
  What Open finds, in plain Lean.
-/
set_option linter.unusedVariables false
set_option linter.unusedSimpArgs false
namespace Go.Proofs.YtihaajncebdioaaGreat
open Go Go.Sl

/-- What is told of these records: those behind the last cut. -/
def outF (rs : List Rec) : List Rec := rs.foldl (fun o r => if r.k = 3 then [] else o ++ [r]) []
theorem outF_snoc (rs : List Rec) (r : Rec) : outF (rs ++ [r]) = if r.k = 3 then [] else outF rs ++ [r] := by unfold outF; rw [List.foldl_append]; rfl
theorem outF_len (rs : List Rec) : (outF rs).length ≤ rs.length := by
  have h : ∀ (rs o : List Rec), (rs.foldl (fun o r => if r.k = 3 then [] else o ++ [r]) o).length ≤ o.length + rs.length := by
    intro rs
    induction rs with
    | nil => intro o; simp
    | cons r t ih =>
      intro o
      rw [List.foldl_cons]
      have := ih (if r.k = 3 then [] else o ++ [r])
      split at this
      · rename_i h1; rw [if_pos h1]; simp only [List.length_nil, List.length_cons] at this ⊢; omega
      · rename_i h1; rw [if_neg h1]; simp only [List.length_append, List.length_cons, List.length_nil] at this ⊢; omega
  have := h rs []
  simpa [outF] using this
theorem mem_skip {α : Type} {a b c : α} {l : List α} (h : a ∈ b :: l) : a ∈ b :: c :: l := by
  rcases List.mem_cons.1 h with rfl | h
  · exact List.mem_cons_self ..
  · exact List.mem_cons_of_mem _ (List.mem_cons_of_mem _ h)
theorem recs_app (a b : List Lf) : recs (a ++ b) = recs a ++ recs b := by unfold recs; simp
theorem recs_one (f : Lf) : recs [f] = f.rs := by unfold recs; simp
theorem recs_count {l : List Lf} (h : ∀ f ∈ l, ∀ r ∈ f.rs, r.code = 0) : 6 * (recs l).length ≤ (dk l).used := by
  rw [dk_used]
  unfold recs
  induction l with
  | nil => simp
  | cons f t ih =>
    have h1 := bytes_count (h f (List.mem_cons_self ..))
    have h2 := ih fun x hx => h x (List.mem_cons_of_mem _ hx)
    simp only [List.map_cons, List.flatten_cons, List.length_append, List.sum_cons]
    omega
/-- The beginning of a record's frame. -/
def Short (t : List UInt8) : Prop := ∃ (r : Rec) (k : Nat), r.code = 0 ∧ k < r.fr.length ∧ t = r.fr.take k
/-- A disk behind a crash: whole files, one that may end in a part of a record, others. -/
def dkX (pre : List Lf) (x : FileP) (post : List FileP) : DkS := ⟨pre.map Lf.file ++ x :: post, []⟩
structure XOk (pre : List Lf) (x : FileP) (post : List FileP) : Prop where
  up : ((pre.map Lf.file ++ x :: post).map (·.n)).Pairwise (· < ·)
  lo : ∀ f ∈ pre.map Lf.file ++ x :: post, 0 ≤ f.n ∧ f.n ≤ 1099511627776
  good : ∀ f ∈ pre, ∀ r ∈ f.rs, r.code = 0
  full : ∀ f ∈ pre, f.full = f
  used : (dkX pre x post).used ≤ 1048576
  len : (pre.map Lf.file ++ x :: post).length ≤ 64
section
variable {pre : List Lf} {x y : FileP} {post : List FileP}
theorem XOk.ne (h : XOk pre x post) : (∀ f ∈ pre, f.n < x.n) ∧ (∀ f ∈ post, x.n < f.n) ∧ ∀ f ∈ pre, ∀ g ∈ post, f.n < g.n := by
  have := h.up
  simp only [List.map_append, List.map_cons, List.map_map] at this
  rw [List.pairwise_append, List.pairwise_cons] at this
  refine ⟨fun f hf => this.2.2 _ (List.mem_map.2 ⟨f, hf, rfl⟩) _ (List.mem_cons_self ..), fun f hf => this.2.1.1 _ (List.mem_map.2 ⟨f, hf, rfl⟩), fun f hf g hg => ?_⟩
  exact this.2.2 _ (List.mem_map.2 ⟨f, hf, rfl⟩) _ (List.mem_cons_of_mem _ (List.mem_map.2 ⟨g, hg, rfl⟩))
theorem find_at {a b : List FileP} {x : FileP} {ps : List Pc} (h : ∀ f ∈ a, f.n ≠ x.n) : (DkS.mk (a ++ x :: b) ps).find x.n = some x := by
  have hp : (a.find? fun z => decide (z.n = x.n)) = none := by
    rw [List.find?_eq_none]
    intro z hz hc
    exact h z hz (of_decide_eq_true hc)
  unfold DkS.find
  simp only [List.find?_append, hp, Option.none_or]
  rw [List.find?_cons_of_pos (by simp)]
theorem XOk.find (h : XOk pre x post) : (dkX pre x post).find x.n = some x := find_at fun f hf => by
  obtain ⟨z, hz, rfl⟩ := List.mem_map.1 hf
  have := h.ne.1 z hz
  show z.n ≠ x.n
  omega
theorem XOk.names (h : XOk pre x post) : (dkX pre x post).names = pre.map (·.n) ++ x.n :: post.map (·.n) := by
  unfold DkS.names dkX
  simp only []
  rw [sortL_sorted (h.up.imp fun hlt => by omega)]
  simp only [List.map_append, List.map_cons, List.map_map]
  rfl
theorem XOk.findP (h : XOk pre x post) {a b : List Lf} {f : Lf} (e : pre = a ++ f :: b) : (dkX pre x post).find f.n = some f.file := by
  subst e
  have h1 : dkX (a ++ f :: b) x post = ⟨a.map Lf.file ++ f.file :: (b.map Lf.file ++ x :: post), []⟩ := by unfold dkX; simp
  rw [h1]
  refine find_at (x := f.file) fun z hz => ?_
  obtain ⟨w, hw, rfl⟩ := List.mem_map.1 hz
  have := h.up
  simp only [List.map_append, List.map_cons, List.map_map, List.append_assoc, List.cons_append] at this
  rw [List.pairwise_append] at this
  have := this.2.2 _ (List.mem_map.2 ⟨w, hw, rfl⟩) _ (List.mem_cons_self ..)
  show w.n ≠ f.n
  have h3 : w.n < f.n := this
  omega
theorem XOk.trunc (h : XOk pre x post) {rs : List Rec} {t : List UInt8} (hb : x.b = bytes rs ++ t) : (dkX pre x post).trunc x.n (bytes rs).length = dkX pre (Lf.file ⟨x.n, rs, rs.length⟩) post := by
  unfold DkS.trunc DkS.onF dkX
  simp only [List.map_append, List.map_cons, if_true]
  have h1 : (pre.map Lf.file).map (fun f => if f.n = x.n then { f with b := f.b.take (bytes rs).length, s := (bytes rs).length } else f) = pre.map Lf.file := by
    rw [List.map_map]
    apply List.map_congr_left
    intro z hz
    have := h.ne.1 z hz
    exact if_neg (by show ¬ z.n = x.n; omega)
  have h2 : post.map (fun f => if f.n = x.n then { f with b := f.b.take (bytes rs).length, s := (bytes rs).length } else f) = post := by
    have : post.map (fun f => if f.n = x.n then { f with b := f.b.take (bytes rs).length, s := (bytes rs).length } else f) = post.map id := by
      apply List.map_congr_left
      intro z hz
      have := h.ne.2.1 z hz
      exact if_neg (by omega)
    rw [this, List.map_id]
  rw [h1, h2]
  congr 3
  rw [hb]
  simp [Lf.file, List.take_left]
theorem XOk.size (h : XOk pre x (y :: post)) : (dkX pre x (y :: post)).size y.n = y.b.length := by
  unfold DkS.size
  have h1 : dkX pre x (y :: post) = ⟨(pre.map Lf.file ++ [x]) ++ y :: post, []⟩ := by unfold dkX; simp
  have h2 : (dkX pre x (y :: post)).find y.n = some y := by
    rw [h1]
    refine find_at fun z hz => ?_
    rcases List.mem_append.1 hz with hz | hz
    · obtain ⟨w, hw, rfl⟩ := List.mem_map.1 hz
      have := h.ne.2.2 w hw y (List.mem_cons_self ..)
      show w.n ≠ y.n
      omega
    · rw [List.mem_singleton.1 hz]
      have := h.ne.2.1 y (List.mem_cons_self ..)
      omega
  rw [h2]
theorem XOk.remove (h : XOk pre x (y :: post)) : (dkX pre x (y :: post)).remove y.n = dkX pre x post := by
  have h1 : dkX pre x (y :: post) = ⟨(pre.map Lf.file ++ [x]) ++ y :: post, []⟩ := by unfold dkX; simp
  have h2 : (dkX pre x (y :: post)).find y.n = some y := by
    rw [h1]
    refine find_at fun z hz => ?_
    rcases List.mem_append.1 hz with hz | hz
    · obtain ⟨w, hw, rfl⟩ := List.mem_map.1 hz
      have := h.ne.2.2 w hw y (List.mem_cons_self ..)
      show w.n ≠ y.n
      omega
    · rw [List.mem_singleton.1 hz]
      have := h.ne.2.1 y (List.mem_cons_self ..)
      omega
  unfold DkS.remove
  rw [h2]
  simp only [Option.isNone_some, Bool.false_eq_true, if_false]
  unfold dkX
  simp only [List.filter_append, List.filter_nil]
  congr 1
  have h3 : (pre.map Lf.file).filter (fun f => decide (f.n ≠ y.n)) = pre.map Lf.file := by
    rw [List.filter_eq_self]
    intro z hz
    obtain ⟨w, hw, rfl⟩ := List.mem_map.1 hz
    have := h.ne.2.2 w hw y (List.mem_cons_self ..)
    exact decide_eq_true (by show w.n ≠ y.n; omega)
  have h4 := h.ne.2.1 y (List.mem_cons_self ..)
  have h5 : post.filter (fun f => decide (f.n ≠ y.n)) = post := by
    rw [List.filter_eq_self]
    intro z hz
    have := h.up
    simp only [List.map_append, List.map_cons] at this
    rw [List.pairwise_append, List.pairwise_cons, List.pairwise_cons] at this
    have := this.2.1.2.1 _ (List.mem_map.2 ⟨z, hz, rfl⟩)
    exact decide_eq_true (by omega)
  rw [h3, List.filter_cons, if_pos (decide_eq_true (by omega)), List.filter_cons, if_neg (by simp), h5]
theorem XOk.drop (h : XOk pre x (y :: post)) : XOk pre x post where
  up := by
    have := h.up
    simp only [List.map_append, List.map_cons] at this ⊢
    rw [List.pairwise_append, List.pairwise_cons, List.pairwise_cons] at this
    rw [List.pairwise_append, List.pairwise_cons]
    exact ⟨this.1, ⟨fun a ha => this.2.1.1 a (List.mem_cons_of_mem _ ha), this.2.1.2.2⟩, fun a ha b hb => this.2.2 a ha b (mem_skip hb)⟩
  lo := fun f hf => h.lo f (by
    rcases List.mem_append.1 hf with hf | hf
    · exact List.mem_append_left _ hf
    · rcases List.mem_cons.1 hf with rfl | hf
      · simp
      · exact List.mem_append_right _ (List.mem_cons_of_mem _ (List.mem_cons_of_mem _ hf)))
  good := h.good
  full := h.full
  used := by
    have := h.used
    unfold DkS.used dkX at this ⊢
    simp only [List.map_append, List.map_cons, List.sum_append, List.sum_cons] at this ⊢
    omega
  len := by have := h.len; simp only [List.length_append, List.length_cons] at this ⊢; omega
theorem XOk.cut (h : XOk pre x post) {rs : List Rec} {t : List UInt8} (hb : x.b = bytes rs ++ t) : XOk pre (Lf.file ⟨x.n, rs, rs.length⟩) post where
  up := by have := h.up; simp only [List.map_append, List.map_cons] at this ⊢; exact this
  lo := fun f hf => by
    rcases List.mem_append.1 hf with hf | hf
    · exact h.lo f (List.mem_append_left _ hf)
    · rcases List.mem_cons.1 hf with rfl | hf
      · exact h.lo x (by simp)
      · exact h.lo f (List.mem_append_right _ (List.mem_cons_of_mem _ hf))
  good := h.good
  full := h.full
  used := by
    have := h.used
    unfold DkS.used dkX at this ⊢
    simp only [List.map_append, List.map_cons, List.sum_append, List.sum_cons, hb, List.length_append, Lf.file] at this ⊢
    omega
  len := by have := h.len; simpa using this
theorem XOk.last {rs : List Rec} (h : XOk pre (Lf.file ⟨x.n, rs, rs.length⟩) []) : dkX pre (Lf.file ⟨x.n, rs, rs.length⟩) [] = dk (pre ++ [⟨x.n, rs, rs.length⟩]) := by
  unfold dkX dk
  simp only [List.map_append, List.map_cons, List.map_nil, List.flatten_append, DkS.mk.injEq, true_and]
  have h1 : (pre.map Lf.ps).flatten = [] := by
    rw [List.flatten_eq_nil_iff]
    intro z hz
    obtain ⟨w, hw, rfl⟩ := List.mem_map.1 hz
    rw [← h.full w hw]
    exact w.full_ps
  rw [h1]
  simp [Lf.ps]
end
end Go.Proofs.YtihaajncebdioaaGreat

/-
  Open walks.
-/
set_option linter.unusedVariables false
set_option linter.unusedSimpArgs false
namespace Go.Sl
open Go
theorem W.nilH {g : World} {P : Program} {c : Code} {Q : Exit → Act → World → Prop} {n : Nat} {L : Fm} {H : HH} (h : W g P c Q n L ([] :: H)) : W g P c Q n L H := .mk fun a w ha hw => h a w ha hw
theorem D.hp {g : World} {e : Exit} {Q : Exit → Act → World → Prop} {n : Nat} {L : Fm} {H H' : HH} (eq : H = H') (h : D g Q e n L H') : D g Q e n L H := eq ▸ h
theorem D.nilH {g : World} {e : Exit} {Q : Exit → Act → World → Prop} {n : Nat} {L : Fm} {H : HH} (h : D g Q e n L ([] :: H)) : D g Q e n L H := .mk fun a w ha hw => h a w ha hw
end Go.Sl
namespace Go.Proofs.YtihaajncebdioaaGreat
open Go Go.Sl

theorem lastN_take {l : List Lf} {i : Nat} {f : Lf} (h : l[i]? = some f) : lastN (l.take (i + 1)) = f.n := by
  obtain ⟨h1, h2⟩ := List.getElem?_eq_some_iff.1 h
  rw [List.take_succ_eq_append_getElem h1, h2, lastN_app]
theorem recs_take {l : List Lf} {i : Nat} {f : Lf} (h : l[i]? = some f) : recs (l.take (i + 1)) = recs (l.take i) ++ f.rs := by
  obtain ⟨h1, h2⟩ := List.getElem?_eq_some_iff.1 h
  rw [List.take_succ_eq_append_getElem h1, h2, recs_app, recs_one]

set_option maxHeartbeats 4000000 in
theorem open_ct {S : DkS} {d : Nat} {h : Hp} (hd : IsDk S d h) {pre : List Lf} {ns : List Int} (hnm : S.names = pre.map (·.n) ++ ns) (hfl : S.fs.length ≤ 64) (hrd : ∀ f ∈ pre, S.readB f.n = bytes f.rs ∧ (bytes f.rs).length ≤ 1048576) (hgd : ∀ f ∈ pre, ∀ r ∈ f.rs, r.code = 0)
    (hln : (S.names).length ≤ 64) {seg torn : Int} {S' : DkS} {out : List Rec} (hcount : 6 * (recs pre).length ≤ 1048576)
    (hend : (ns = [] ∧ seg = lastN pre ∧ torn = 0 ∧ S' = S ∧ out = outF (recs pre)) ∨
      ∃ x post rs t, S = dkX pre x post ∧ XOk pre x post ∧ x.b = bytes rs ++ t ∧ x.s = x.b.length ∧ (∀ r ∈ rs, r.code = 0) ∧ Short t ∧ t ≠ [] ∧ seg = x.n ∧ torn = (t.length + (post.map (·.b.length)).sum : Nat) ∧ S' = dk (pre ++ [⟨x.n, rs, rs.length⟩]) ∧ out = outF (recs pre ++ rs)) :
    Ct Tryz.prog 9 [.pointer (some ⟨d, 0, none⟩)] [h] (fun res H' => ∃ w u h' ho, res = .tuple #[.pointer (some ⟨w, 0, none⟩), u] ∧ H' = [WBk w d seg torn, h', ho] ∧ IsDk S' d h' ∧ IsSl 51 out u ho) := by
  have hfc := files_ct hd (by omega)
  refine Ct.mk' Tryz.func9 rfl rfl rfl (fun g R => ?_)
  try simp only [List.cons_append]
  simp only [List.nil_append]
  repeat' (first | refine go ?_ | refine mv ?_ | refine asg ?_ | refine bd ?_ | refine bx rfl (fun _ => ?_) | refine W.scopeF 0 rfl ?_ | fail)
  rename_i w
  refine WX.call rfl hfc rfl ?_
  rintro u _ ⟨hb, rfl, hs⟩
  have hr := hs.rs
  obtain ⟨up, uc, rfl⟩ := hr.len
  have huc : S.names.length ≤ uc := by obtain ⟨a, cc, e, le, _⟩ := id hr; cases e; exact le
  simp only [List.cons_append, List.nil_append]
  repeat' (first | refine go ?_ | refine asg ?_ | fail)
  refine W.nilH ?_
  refine W.hp (H' := [[], h, hb, WBk w d (lastN (pre.take 0)) 0, R]) rfl ?_
  refine W.loop (α := Nat × Value × Hp) (fun x => x.1 ≤ pre.length ∧ IsSl 51 (outF (recs (pre.take x.1))) x.2.1 x.2.2)
    (fun x => [(0, .pointer (some ⟨d, 0, none⟩)), (4, .pointer (some ⟨w, 0, none⟩)), (5, x.2.1), (6, .slice up S.names.length uc), (8, .int .i64 (x.1 : Int))])
    (fun x => [x.2.2, WBk w d (lastN (pre.take x.1)) 0, h, hb, R]) (fun x => pre.length + 1 - x.1) (0, .slice none 0 0, []) ⟨Nat.zero_le _, IsSl.nil _⟩ (by repeat (first | exact Fsub.nil | refine Fsub.cons rfl ?_)) (Hsub.of_picks inferInstance) ?_
  rintro ⟨i, o, ho⟩ ⟨hi, hso⟩
  simp only [] at hi hso ⊢
  have hnl : S.names.length = pre.length + ns.length := by rw [hnm]; simp
  by_cases hC : i = pre.length ∧ ns = []
  · obtain ⟨rfl, rfl⟩ := hC
    simp only [List.length_nil] at hnl
    rcases hend with ⟨-, rfl, rfl, rfl, rfl⟩ | ⟨x, post, rs, t, e, ox, -⟩
    · rw [List.take_length] at hso ⊢
      repeat' (first | refine go ?_ | refine mv ?_ | refine asg ?_ | (refine I.bin ?_; refine cm rfl rfl ?_) | (refine I.cond ?_; refine cN ?_) | (refine I.bi ?_; refine ln rfl (by assumption) ?_) | fail)
      exact D.fin2 [WBk w d (lastN pre) 0, h, ho] _ rfl rfl rfl ⟨w, o, h, ho, rfl, rfl, hd, hso⟩
    · exfalso
      subst e
      rw [ox.names] at hnm
      simp at hnm
  · obtain ⟨n, rs, t, hnI, hrdI, hbl, hgr, hcase⟩ : ∃ n rs t, S.names[i]? = some n ∧ S.readB n = bytes rs ++ t ∧ (bytes rs ++ t).length ≤ 1048576 ∧ (∀ r ∈ rs, r.code = 0) ∧
        ((t = [] ∧ ∃ f, pre[i]? = some f ∧ f.n = n ∧ f.rs = rs) ∨ (i = pre.length ∧ ∃ x post, S = dkX pre x post ∧ XOk pre x post ∧ x.b = bytes rs ++ t ∧ x.s = x.b.length ∧ Short t ∧ t ≠ [] ∧ n = x.n ∧ seg = x.n ∧ torn = (t.length + (post.map (·.b.length)).sum : Nat) ∧ S' = dk (pre ++ [⟨x.n, rs, rs.length⟩]) ∧ out = outF (recs pre ++ rs))) := by
      by_cases hlt : i < pre.length
      · obtain ⟨f, hf⟩ : ∃ f, pre[i]? = some f := ⟨_, List.getElem?_eq_getElem hlt⟩
        have hm := List.mem_of_getElem? hf
        refine ⟨f.n, f.rs, [], ?_, by rw [List.append_nil]; exact (hrd f hm).1, by rw [List.append_nil]; exact (hrd f hm).2, hgd f hm, .inl ⟨rfl, f, hf, rfl, rfl⟩⟩
        rw [hnm, List.getElem?_append_left (by simpa using hlt), List.getElem?_map, hf]; rfl
      · obtain rfl : i = pre.length := by omega
        rcases hend with ⟨e, -⟩ | ⟨x, post, rs, t, e1, e2, e3, e4, e5, e6, e7, e8, e9, e10, e11⟩
        · exact absurd ⟨rfl, e⟩ hC
        · have hnx := e2.names
          rw [← e1, hnm] at hnx
          have hns := List.append_cancel_left hnx
          have hrb : S.readB x.n = x.b := by unfold DkS.readB; rw [e1, e2.find]
          have hub : x.b.length ≤ 1048576 := by
            have := e2.used
            unfold DkS.used dkX at this
            simp only [List.map_append, List.map_cons, List.sum_append, List.sum_cons] at this
            omega
          refine ⟨x.n, rs, t, ?_, by rw [hrb, e3], by rw [← e3]; exact hub, e5, .inr ⟨rfl, x, post, e1, e2, e3, e4, e6, e7, rfl, e8, e9, e10, e11⟩⟩
          rw [hnm, hns, List.getElem?_append_right (by simp)]; simp
    have hrl : 6 * rs.length ≤ 1048576 := by
      have := bytes_count hgr
      rw [List.length_append] at hbl; omega
    have hrt : (recs (pre.take i)).length ≤ (recs pre).length := by
      have := congrArg (fun l => (recs l).length) (List.take_append_drop i pre)
      simp only [recs_app, List.length_append] at this; omega
    have hrc := read_ct hd n (by rw [hrdI]; omega)
    rw [hrdI] at hrc
    have hil : i < S.names.length := (List.getElem?_eq_some_iff.1 hnI).1
    repeat' (first | refine go ?_ | refine mv ?_ | (refine I.ld ?_; refine lE rfl (by assumption) ?_) | (refine I.fa ?_; refine fa ?_) | (refine I.nc ?_; refine nc ?_) | (refine I.bin ?_; refine cm rfl rfl ?_) | (refine I.cond ?_; refine cP ?_) | (refine I.bi ?_; refine ln rfl (by assumption) ?_) | (refine I.ix ?_; refine ix rfl rfl ?_) | (refine I.st ?_; refine st rfl rfl ?_) | fail)
    refine WX.call rfl hrc rfl ?_
    rintro _ _ ⟨ub, hbb, rfl, rfl, hsb⟩
    have hrb := hsb.rs
    obtain ⟨bp, bc, rfl⟩ := hrb.len
    have hbc : (bytes rs ++ t).length ≤ bc := by obtain ⟨a, cc, e, le, _⟩ := id hrb; cases e; exact le
    simp only [List.cons_append, List.nil_append]
    repeat' (first | refine go ?_ | refine mv ?_ | refine asg ?_ | refine ex ?_ | fail)
    refine W.loop (α := Nat × Value × Hp) (fun x => x.1 ≤ rs.length ∧ IsSl 51 (outF (recs (pre.take i) ++ rs.take x.1)) x.2.1 x.2.2)
      (fun x => [(0, .pointer (some ⟨d, 0, none⟩)), (4, .pointer (some ⟨w, 0, none⟩)), (5, x.2.1), (6, .slice up S.names.length uc), (7, .slice bp (bytes rs ++ t).length bc), (8, .int .i64 (i : Int)), (9, .int .i64 ((bytes (rs.take x.1)).length : Int))])
      (fun x => [h, hbb, x.2.2, WBk w d n 0, hb, R]) (fun x => rs.length + 1 - x.1) (0, o, ho) ⟨Nat.zero_le _, by simpa using hso⟩ (by repeat (first | exact Fsub.nil | refine Fsub.cons rfl ?_)) (Hsub.of_picks inferInstance) ?_
    rintro ⟨j, o1, ho1⟩ ⟨hj, hso1⟩
    simp only [] at hj hso1 ⊢
    have hcl : (bytes rs ++ t).length = (bytes rs).length + t.length := List.length_append
    have hbt := bytes_take_le rs j
    by_cases hlt : j < rs.length
    · obtain ⟨r, hrj⟩ : ∃ r, rs[j]? = some r := ⟨_, List.getElem?_eq_getElem hlt⟩
      have hrc0 := hgr r (List.mem_of_getElem? hrj)
      have hgd1 := Rec.good hrc0
      have hle := hgd1.fr_le
      have htk : rs.take (j + 1) = rs.take j ++ [r] := by rw [List.take_succ_eq_append_getElem hlt, (List.getElem?_eq_some_iff.1 hrj).2]
      have hdj : rs.drop j = r :: rs.drop (j + 1) := by rw [List.drop_eq_getElem_cons hlt, (List.getElem?_eq_some_iff.1 hrj).2]
      have hat : (bytes (rs.take (j + 1))).length = (bytes (rs.take j)).length + r.fr.length := by rw [htk, bytes_app, List.length_append]; simp [bytes]
      have hxs : (bytes rs ++ t).drop (bytes (rs.take j)).length = r.fr ++ (bytes (rs.drop (j + 1)) ++ t) := by
        rw [← bytes_take_drop rs j, List.append_assoc, List.drop_left, hdj, bytes_cons, List.append_assoc]
      have hxl : (bytes rs ++ t).length = (bytes (rs.take j)).length + (r.fr.length + (bytes (rs.drop (j + 1)) ++ t).length) := by
        have := congrArg List.length hxs
        simp only [List.length_drop, List.length_append] at this ⊢
        omega
      have hcut := hrb.cut (m := 1) (lo := (bytes (rs.take j)).length) (hi := (bytes rs ++ t).length) (mx := bc) rfl (by omega) (Nat.le_refl _) hbc
      rw [List.take_of_length_le (by rw [List.length_drop]; omega)] at hcut
      have hread := read_ok hgd1 hrc0 hxs hcut (by rw [List.length_drop]; omega)
      repeat' (first | refine go ?_ | refine mv ?_ | (refine I.bin ?_; refine cm rfl rfl ?_) | (refine I.cond ?_; refine cP ?_) | (refine I.bi ?_; refine ln rfl (by assumption) ?_) | fail)
      refine I.sl ?_
      refine WX.cutFrom (lo := (bytes (rs.take j)).length) rfl rfl (by omega) hbc rfl ?_
      refine WX.callQ rfl hread rfl ?_
      have hoc := outF_len (recs (pre.take i) ++ rs.take j)
      rw [List.length_append, List.length_take] at hoc
      by_cases hk3 : r.k = 3
      · repeat' (first | refine go ?_ | refine mv ?_ | (refine I.ld ?_; refine ld rfl ?_) | refine asg ?_ | (refine I.fa ?_; refine fa ?_) | (refine I.bin ?_; first | refine cm rfl rfl ?_ | refine ad ?_) | (refine I.cond ?_; first | refine cF ?_ | refine cP ?_) | (refine I.st ?_; refine sG rfl rfl ?_) | refine ex ?_ | refine al (fun _ => ?_) | fail)
        refine D.as 9 (.int .i64 ((bytes (rs.take (j + 1))).length : Int)) rfl (by rw [hat]; rfl) ?_
        refine D.nilH ?_
        exact D.round (j + 1, .slice none 0 0, []) ⟨by simp only []; omega, by simp only []; rw [htk, ← List.append_assoc, outF_snoc, if_pos hk3]; exact IsSl.nil _⟩ (by simp only []; omega) (by repeat (first | exact Fsub.nil | refine Fsub.cons rfl ?_)) (Hsub.of_picks inferInstance)
      · repeat' (first | refine go ?_ | refine mv ?_ | (refine I.ld ?_; first | refine ld rfl ?_ | refine lA rfl ?_) | refine asg ?_ | (refine I.fa ?_; refine fa ?_) | (refine I.bin ?_; first | refine cm rfl rfl ?_ | refine ad ?_) | (refine I.cond ?_; first | refine cF ?_ | refine cN ?_) | (refine I.st ?_; refine sG rfl rfl ?_) | refine ex ?_ | refine al (fun _ => ?_) | fail)
        refine I.bs ?_
        refine WX.lit (ys := [r]) rfl rfl rfl rfl rfl rfl (by decide) rfl (fun v1 h1 hs1 => ?_)
        refine WX.app rfl rfl hso1 hs1.rs rfl rfl (by decide) (by simp only [List.length_cons, List.length_nil, List.length_append] at hoc ⊢; omega) rfl (fun v2 h2 hs2 => ?_)
        repeat' (first | refine go ?_ | refine asg ?_ | fail)
        refine D.as 9 (.int .i64 ((bytes (rs.take (j + 1))).length : Int)) rfl (by rw [hat]; rfl) ?_
        exact D.round (j + 1, v2, h2) ⟨by simp only []; omega, by simp only []; rw [htk, ← List.append_assoc, outF_snoc, if_neg hk3]; exact hs2⟩ (by simp only []; omega) (by repeat (first | exact Fsub.nil | refine Fsub.cons rfl ?_)) (Hsub.of_picks inferInstance)
    · obtain rfl : j = rs.length := by omega
      rw [List.take_length] at hso1 hbt ⊢
      rcases hcase with ⟨rfl, f, hf, rfl, rfl⟩ | ⟨rfl, x, post, rfl, ox, hxb, hxs, hsh, htn, rfl, rfl, rfl, rfl, rfl⟩
      · simp only [List.length_nil, Nat.add_zero] at hcl
        have hip := (List.getElem?_eq_some_iff.1 hf).1
        repeat' (first | refine go ?_ | refine mv ?_ | refine asg ?_ | (refine I.bin ?_; first | refine cm rfl rfl ?_ | refine ad ?_) | (refine I.cond ?_; refine cN ?_) | (refine I.bi ?_; refine ln rfl (by assumption) ?_) | fail)
        rw [← recs_take hf] at hso1
        rw [← lastN_take hf]
        exact D.round (i + 1, o1, ho1) ⟨by simp only []; omega, hso1⟩ (by simp only []; omega) (by repeat (first | exact Fsub.nil | refine Fsub.cons rfl ?_)) (Hsub.of_picks inferInstance)
      · obtain ⟨r, k, hrc0, hk, rfl⟩ := hsh
        have hgd1 := Rec.good hrc0
        have hle := hgd1.fr_le
        have htl : 0 < (r.fr.take k).length := List.length_pos_iff.2 htn
        have hcut := hrb.cut (m := 1) (lo := (bytes rs).length) (hi := (bytes rs ++ r.fr.take k).length) (mx := bc) rfl (by omega) (Nat.le_refl _) hbc
        rw [List.take_of_length_le (by rw [List.length_drop]; omega), List.drop_left] at hcut
        have hread := read_short hgd1 hk rfl htn hcut
        repeat' (first | refine go ?_ | refine mv ?_ | (refine I.bin ?_; refine cm rfl rfl ?_) | (refine I.cond ?_; refine cP ?_) | (refine I.bi ?_; refine ln rfl (by assumption) ?_) | fail)
        refine I.sl ?_
        refine WX.cutFrom (lo := (bytes rs).length) rfl rfl (by omega) hbc rfl ?_
        refine WX.callQ rfl hread rfl ?_
        repeat' (first | refine go ?_ | refine mv ?_ | (refine I.ld ?_; refine lE rfl (by assumption) ?_) | refine asg ?_ | (refine I.fa ?_; refine fa ?_) | (refine I.nc ?_; refine nc ?_) | (refine I.bin ?_; first | refine cm rfl rfl ?_ | refine su ?_) | (refine I.cond ?_; refine cT ?_) | (refine I.bi ?_; refine ln rfl (by assumption) ?_) | (refine I.ix ?_; refine ix rfl rfl ?_) | (refine I.st ?_; first | refine st rfl rfl ?_ | refine sG rfl rfl ?_) | refine ex ?_ | refine al (fun _ => ?_) | fail)
        have oxc := ox.cut hxb
        have htc := trunc_ct hd ox.find hxs (n := (bytes rs).length) (by rw [hxb, List.length_append]; omega) (by rw [hxb]; omega) rfl
        rw [ox.trunc hxb] at htc
        refine WX.call rfl htc rfl ?_
        rintro _ _ ⟨y0, rfl, rfl, hd0⟩
        simp only [List.cons_append, List.nil_append]
        have hnx := ox.names
        have hnxl : (dkX pre x post).names.length = pre.length + 1 + post.length := by rw [hnx]; simp; omega
        have hcn := hr.cut (m := 1) (lo := pre.length + 1) (hi := (dkX pre x post).names.length) (mx := uc) rfl (by omega) (Nat.le_refl _) huc
        have hdn : (dkX pre x post).names.drop (pre.length + 1) = post.map (·.n) := by
          rw [hnx, ← List.drop_drop, show pre.length = (pre.map (·.n)).length from (List.length_map _).symm, List.drop_left]; rfl
        rw [List.take_of_length_le (by rw [List.length_drop]; omega), hdn] at hcn
        have hpl : (post.map (·.n)).length = post.length := List.length_map _
        have hus := ox.used
        unfold DkS.used dkX at hus
        simp only [List.map_append, List.map_cons, List.sum_append, List.sum_cons, hxb, List.length_append] at hus
        repeat' (first | refine go ?_ | refine mv ?_ | (refine I.bin ?_; refine ad ?_) | fail)
        refine WX.as 84 (.int .i64 ((pre.length + 1 : Nat) : Int)) rfl rfl ?_
        refine I.sl ?_
        refine WX.cutFrom (lo := pre.length + 1) rfl rfl (by omega) huc rfl ?_
        generalize slCut (.slice up (dkX pre x post).names.length uc) 1 (pre.length + 1) (dkX pre x post).names.length uc = z at hcn ⊢
        repeat' (first | refine go ?_ | refine mv ?_ | (refine I.bi ?_; refine ln rfl (by assumption) ?_) | fail)
        have e0 : (((bytes rs ++ r.fr.take k).length : Int) - ((bytes rs).length : Int)) = (((r.fr.take k).length + ((post.take 0).map (·.b.length)).sum : Nat) : Int) := by
          simp only [List.length_append, List.take_zero, List.map_nil, List.sum_nil]; omega
        rw [e0]
        refine W.loop (α := Nat × Hp) (fun x1 => x1.1 ≤ post.length ∧ IsDk (dkX pre (Lf.file ⟨x.n, rs, rs.length⟩) (post.drop x1.1)) d x1.2 ∧ XOk pre (Lf.file ⟨x.n, rs, rs.length⟩) (post.drop x1.1))
          (fun x1 => [(0, .pointer (some ⟨d, 0, none⟩)), (4, .pointer (some ⟨w, 0, none⟩)), (5, o1), (85, z), (86, .int .i64 ((post.map (·.n)).length : Int)), (87, .int .i64 (x1.1 : Int))])
          (fun x1 => [x1.2, ho1, WBk w d x.n (((r.fr.take k).length + ((post.take x1.1).map (·.b.length)).sum : Nat) : Int), hb, R]) (fun x1 => post.length - x1.1) (0, y0) ⟨Nat.zero_le _, hd0, oxc⟩ (by repeat (first | exact Fsub.nil | refine Fsub.cons rfl ?_)) (Hsub.of_picks inferInstance) ?_
        rintro ⟨q, y1⟩ ⟨hq, hdq, oq⟩
        simp only [] at hq hdq oq ⊢
        by_cases hlt : q < post.length
        · obtain ⟨y, hy⟩ : ∃ y, post[q]? = some y := ⟨_, List.getElem?_eq_getElem hlt⟩
          have hyn : (post.map (·.n))[q]? = some y.n := by rw [List.getElem?_map, hy]; rfl
          have hdr : post.drop q = y :: post.drop (q + 1) := by rw [List.drop_eq_getElem_cons hlt, (List.getElem?_eq_some_iff.1 hy).2]
          have htk : ((post.take (q + 1)).map (·.b.length)).sum = ((post.take q).map (·.b.length)).sum + y.b.length := by
            rw [List.take_succ_eq_append_getElem hlt, (List.getElem?_eq_some_iff.1 hy).2]; simp
          have hle2 : ((post.take (q + 1)).map (·.b.length)).sum ≤ (post.map (·.b.length)).sum := by
            have := congrArg (fun l => (l.map (fun f : FileP => f.b.length)).sum) (List.take_append_drop (q + 1) post)
            simp only [List.map_append, List.sum_append] at this; omega
          rw [hdr] at hdq oq
          have hsz := size_ct hdq y.n
          rw [oq.size] at hsz
          have hrm := dremove_ct hdq y.n (by show (0 : Nat) ≤ _; omega)
          rw [oq.remove] at hrm
          repeat' (first | refine go ?_ | (refine I.ld ?_; refine lE rfl (by assumption) ?_) | refine asg ?_ | (refine I.bin ?_; refine cm rfl rfl ?_) | (refine I.cond ?_; refine cP ?_) | (refine I.ix ?_; refine ix rfl rfl ?_) | fail)
          refine W.mix (List.replicate 6 true ++ [false, true]) [WBk w d x.n (((r.fr.take k).length + ((post.take q).map (·.b.length)).sum : Nat) : Int)] Tryz.mix (by kernel_rfl) ?_
          repeat' (first | refine go ?_ | refine mv ?_ | (refine I.ld ?_; refine ld rfl ?_) | (refine I.fa ?_; refine fa ?_) | (refine I.nc ?_; refine nc ?_) | refine mU ?_ | refine mA ?_ | fail)
          refine WX.callQ rfl hsz rfl ?_
          repeat' (first | refine go ?_ | refine mv ?_ | (refine I.fa ?_; refine fa ?_) | (refine I.nc ?_; refine nc ?_) | (refine I.bin ?_; refine ad ?_) | refine mN ?_ | refine mU ?_ | (refine I.st ?_; refine st rfl rfl ?_) | fail)
          refine WX.call rfl hrm rfl ?_
          rintro _ _ ⟨y2, rfl, rfl, hd2⟩
          simp only [List.cons_append, List.nil_append]
          repeat' (first | refine go ?_ | refine mv ?_ | (refine I.bin ?_; refine ad ?_) | fail)
          have e1 : ((((r.fr.take k).length + ((post.take q).map (·.b.length)).sum : Nat) : Int) + (y.b.length : Int)) = (((r.fr.take k).length + ((post.take (q + 1)).map (·.b.length)).sum : Nat) : Int) := by rw [htk]; omega
          rw [e1]
          exact D.round (q + 1, y2) ⟨by simp only []; omega, hd2, oq.drop⟩ (by simp only []; omega) (by repeat (first | exact Fsub.nil | refine Fsub.cons rfl ?_)) (Hsub.of_picks inferInstance)
        · obtain rfl : q = post.length := by omega
          rw [List.drop_length] at hdq oq
          rw [List.take_length]
          rw [oq.last] at hdq
          repeat' (first | refine go ?_ | refine mv ?_ | refine asg ?_ | (refine I.bin ?_; refine cm rfl rfl ?_) | (refine I.cond ?_; refine cN ?_) | fail)
          exact D.fin2 [WBk w d x.n (((r.fr.take k).length + (post.map (·.b.length)).sum : Nat) : Int), y1, ho1] _ rfl rfl rfl ⟨w, o1, y1, ho1, rfl, rfl, hdq, by rw [← List.take_length (l := pre)]; exact hso1⟩
end Go.Proofs.YtihaajncebdioaaGreat

/-
  Open on a whole log; a crash.
-/
set_option linter.unusedVariables false
set_option linter.unusedSimpArgs false
namespace Go.Proofs.YtihaajncebdioaaGreat
open Go Go.Sl

theorem open_whole {l : List Lf} (ok : LOk l) {d : Nat} {h : Hp} (hd : IsDk (dk l) d h) :
    Ct Tryz.prog 9 [.pointer (some ⟨d, 0, none⟩)] [h] (fun res H' => ∃ w u h' ho, res = .tuple #[.pointer (some ⟨w, 0, none⟩), u] ∧ H' = [WBk w d (lastN l) 0, h', ho] ∧ IsDk (dk l) d h' ∧ IsSl 51 (outF (recs l)) u ho) := by
  have hc := recs_count ok.good
  have hu := ok.used
  refine open_ct (pre := l) (ns := []) hd (by rw [dk_names ok, List.append_nil]) (by rw [ok.fs_len]; exact ok.len) (fun f hf => ?_) ok.good (by rw [dk_names ok, List.length_map]; exact ok.len) (by omega) (.inl ⟨rfl, rfl, rfl, rfl, rfl⟩)
  obtain ⟨a, b, rfl⟩ := List.append_of_mem hf
  refine ⟨by unfold DkS.readB; rw [dk_find ok.toLUp]; rfl, ?_⟩
  rw [dk_used] at hu
  simp only [List.map_append, List.map_cons, List.sum_append, List.sum_cons] at hu
  omega
theorem open_torn {pre : List Lf} {x : FileP} {post : List FileP} (ox : XOk pre x post) {rs : List Rec} {t : List UInt8} (hb : x.b = bytes rs ++ t) (hs : x.s = x.b.length) (hg : ∀ r ∈ rs, r.code = 0) (hsh : Short t) (ht : t ≠ []) {d : Nat} {h : Hp} (hd : IsDk (dkX pre x post) d h) :
    Ct Tryz.prog 9 [.pointer (some ⟨d, 0, none⟩)] [h] (fun res H' => ∃ w u h' ho, res = .tuple #[.pointer (some ⟨w, 0, none⟩), u] ∧ H' = [WBk w d x.n ((t.length + (post.map (·.b.length)).sum : Nat) : Int), h', ho] ∧ IsDk (dk (pre ++ [⟨x.n, rs, rs.length⟩])) d h' ∧ IsSl 51 (outF (recs pre ++ rs)) u ho) := by
  have hu := ox.used
  have hl := ox.len
  have hc := recs_count (l := pre) ox.good
  rw [dk_used] at hc
  have hup : (pre.map (fun f => (bytes f.rs).length)).sum ≤ 1048576 := by
    unfold DkS.used dkX at hu
    simp only [List.map_append, List.map_cons, List.sum_append, List.sum_cons, List.map_map] at hu
    have : (pre.map ((fun x => x.b.length) ∘ Lf.file)) = pre.map (fun f => (bytes f.rs).length) := rfl
    rw [this] at hu
    omega
  have hlen : (pre.map Lf.file ++ x :: post).length ≤ 64 := hl
  have hnl : (dkX pre x post).names.length ≤ 64 := by
    rw [ox.names]
    simp only [List.length_append, List.length_map, List.length_cons] at hl ⊢
    omega
  refine open_ct (pre := pre) (ns := x.n :: post.map (·.n)) hd ox.names hl (fun f hf => ?_) ox.good hnl (by omega) (.inr ⟨x, post, rs, t, rfl, ox, hb, hs, hg, hsh, ht, rfl, rfl, rfl, rfl⟩)
  obtain ⟨a, b, e⟩ := List.append_of_mem hf
  refine ⟨by unfold DkS.readB; rw [ox.findP e]; rfl, ?_⟩
  have := sum_mem_le (List.mem_map.2 ⟨f, hf, rfl⟩ : (bytes f.rs).length ∈ pre.map (fun f => (bytes f.rs).length))
  omega
end Go.Proofs.YtihaajncebdioaaGreat

/-
  A crash of a log's disk, in plain Lean.
-/
set_option linter.unusedVariables false
set_option linter.unusedSimpArgs false
namespace Go.Proofs.YtihaajncebdioaaGreat
open Go Go.Sl

def crashL : List Lf → Nat → List FileP
  | [], _ => []
  | f :: t, q => ⟨f.n, (bytes f.rs).take ((bytes (f.rs.take f.k)).length + min q (bytes (f.rs.drop f.k)).length), (bytes (f.rs.take f.k)).length + min q (bytes (f.rs.drop f.k)).length⟩ :: crashL t (q - min q (bytes (f.rs.drop f.k)).length)
theorem crQ_eq {keep : Int} {m : Nat} {n : Int} : crQ keep ⟨n, (m : Int)⟩ = (min keep.toNat m : Nat) := by
  unfold crQ
  simp only []
  split <;> split at * <;> omega
/-- The pieces of one file. -/
theorem crFold {n : Int} {a b : List FileP} (ha : ∀ x ∈ a, x.n ≠ n) (hb : ∀ x ∈ b, x.n ≠ n) {bs : List UInt8} : ∀ (ms : List Nat) (s : Nat) (keep lost : Int),
    ∃ lost', (ms.map fun (m : Nat) => (⟨n, (m : Int)⟩ : Pc)).foldl crStep (a ++ ⟨n, bs, s⟩ :: b, keep, lost) = (a ++ ⟨n, bs, s + min keep.toNat ms.sum⟩ :: b, keep - (min keep.toNat ms.sum : Nat), lost') := by
  intro ms
  induction ms with
  | nil => intro s keep lost; exact ⟨lost, by simp⟩
  | cons m t ih =>
    intro s keep lost
    have h1 : ∀ l : List FileP, (∀ x ∈ l, x.n ≠ n) → (l.map fun f => if f.n = n then { f with s := f.s + (crQ keep ⟨n, (m : Int)⟩).toNat } else f) = l := by
      intro l hl
      have : (l.map fun f => if f.n = n then { f with s := f.s + (crQ keep ⟨n, (m : Int)⟩).toNat } else f) = l.map id := by
        apply List.map_congr_left
        intro x hx
        exact if_neg (hl x hx)
      rw [this, List.map_id]
    have h2 : crStep (a ++ ⟨n, bs, s⟩ :: b, keep, lost) ⟨n, (m : Int)⟩ = (a ++ ⟨n, bs, s + min keep.toNat m⟩ :: b, keep - (min keep.toNat m : Nat), lost + ((m : Int) - (min keep.toNat m : Nat))) := by
      unfold crStep
      simp only [List.map_append, List.map_cons, h1 a ha, h1 b hb, if_true]
      rw [crQ_eq]
      simp
    rw [List.map_cons, List.foldl_cons, h2]
    obtain ⟨lost', h3⟩ := ih (s + min keep.toNat m) (keep - (min keep.toNat m : Nat)) (lost + ((m : Int) - (min keep.toNat m : Nat)))
    have h4 : min keep.toNat m + min (keep - (min keep.toNat m : Nat)).toNat t.sum = min keep.toNat (m + t.sum) := by omega
    refine ⟨lost', ?_⟩
    rw [h3, List.sum_cons, Nat.add_assoc, h4]
    congr 2
    omega
theorem ps_eq (f : Lf) : f.ps = ((f.rs.drop f.k).map fun r => r.fr.length).map fun (m : Nat) => (⟨f.n, (m : Int)⟩ : Pc) := by
  unfold Lf.ps; rw [List.map_map]; rfl
theorem crFiles : ∀ (l : List Lf) (a : List FileP) (keep lost : Int), (l.map (·.n)).Pairwise (· ≠ ·) → (∀ x ∈ a, ∀ f ∈ l, x.n ≠ f.n) →
    ∃ fs k' lost', ((l.map Lf.ps).flatten).foldl crStep (a ++ l.map Lf.file, keep, lost) = (a ++ fs, k', lost') ∧ fs.map (fun f => { f with b := f.b.take f.s }) = crashL l keep.toNat := by
  intro l
  induction l with
  | nil => intro a keep lost _ _; exact ⟨[], keep, lost, by simp, rfl⟩
  | cons f t ih =>
    intro a keep lost hp ha
    rw [List.map_cons, List.pairwise_cons] at hp
    have hb : ∀ x ∈ t.map Lf.file, x.n ≠ f.n := by
      intro x hx
      obtain ⟨y, hy, rfl⟩ := List.mem_map.1 hx
      exact fun e => hp.1 y.n (List.mem_map.2 ⟨y, hy, rfl⟩) e.symm
    obtain ⟨l1, h1⟩ := crFold (n := f.n) (a := a) (b := t.map Lf.file) (fun x hx => ha x hx f (List.mem_cons_self ..)) hb (bs := bytes f.rs) ((f.rs.drop f.k).map fun r => r.fr.length) (bytes (f.rs.take f.k)).length keep lost
    rw [← ps_eq, ← bytes_len] at h1
    have h2 : a ++ (f :: t).map Lf.file = a ++ ⟨f.n, bytes f.rs, (bytes (f.rs.take f.k)).length⟩ :: t.map Lf.file := rfl
    rw [List.map_cons (f := Lf.ps), List.flatten_cons, List.foldl_append, h2, h1]
    obtain ⟨fs, k', lost', h3, h4⟩ := ih (a ++ [⟨f.n, bytes f.rs, (bytes (f.rs.take f.k)).length + min keep.toNat (bytes (f.rs.drop f.k)).length⟩]) (keep - (min keep.toNat (bytes (f.rs.drop f.k)).length : Nat)) l1 hp.2 (fun x hx g hg => by
      rcases List.mem_append.1 hx with hx | hx
      · exact ha x hx g (List.mem_cons_of_mem _ hg)
      · rw [List.mem_singleton.1 hx]; exact hp.1 g.n (List.mem_map.2 ⟨g, hg, rfl⟩))
    simp only [List.append_assoc, List.singleton_append] at h3
    refine ⟨_ :: fs, k', lost', h3, ?_⟩
    rw [List.map_cons, h4, show (keep - (min keep.toNat (bytes (f.rs.drop f.k)).length : Nat)).toNat = keep.toNat - min keep.toNat (bytes (f.rs.drop f.k)).length from by omega]
    rfl
theorem dk_crash {l : List Lf} (ok : LOk l) (keep : Int) : (dk l).crash keep = ⟨crashL l keep.toNat, []⟩ := by
  obtain ⟨fs, k', lost', h1, h2⟩ := crFiles l [] keep 0 (List.pairwise_map.2 (ok.up.imp fun h => by omega)) (by simp)
  unfold DkS.crash DkS.crF
  rw [show (dk l).loose = (l.map Lf.ps).flatten from rfl, show (dk l).fs = [] ++ l.map Lf.file from rfl, h1]
  simp only [List.nil_append]
  rw [h2]
/-- The first bytes of frames. -/
theorem take_frames : ∀ (rs : List Rec) (q : Nat), (∀ r ∈ rs, r.code = 0) → q ≤ (bytes rs).length → ∃ j t, j ≤ rs.length ∧ (bytes rs).take q = bytes (rs.take j) ++ t ∧ (t = [] ∨ (Short t ∧ t ≠ [])) := by
  intro rs
  induction rs with
  | nil => intro q _ hq; exact ⟨0, [], Nat.le_refl _, by simp [bytes], .inl rfl⟩
  | cons r u ih =>
    intro q hg hq
    by_cases h : q < r.fr.length
    · refine ⟨0, r.fr.take q, Nat.zero_le _, ?_, ?_⟩
      · rw [bytes_cons, List.take_append_of_le_length (by omega)]; simp [bytes]
      · by_cases h0 : q = 0
        · left; rw [h0]; rfl
        · right
          refine ⟨⟨r, q, hg r (List.mem_cons_self ..), h, rfl⟩, fun e => ?_⟩
          have h5 : min q r.fr.length = 0 := by
            have := congrArg List.length e
            rwa [List.length_take, List.length_nil] at this
          omega
    · rw [bytes_cons, List.length_append] at hq
      obtain ⟨j, t, h1, h2, h3⟩ := ih (q - r.fr.length) (fun x hx => hg x (List.mem_cons_of_mem _ hx)) (by omega)
      refine ⟨j + 1, t, by simpa using h1, ?_, h3⟩
      rw [List.take_succ_cons, bytes_cons, bytes_cons, List.take_append, List.take_of_length_le (by omega), h2, List.append_assoc]
/-- Files with fewer records, all synced. -/
inductive Bel : List Lf → List Lf → Prop
  | nil : Bel [] []
  | cons {a b : List Lf} {f : Lf} {m : Nat} (h : Bel a b) : Bel (⟨f.n, f.rs.take m, (f.rs.take m).length⟩ :: a) (f :: b)
theorem Bel.names {a b : List Lf} (h : Bel a b) : a.map (·.n) = b.map (·.n) := by
  induction h with
  | nil => rfl
  | cons h ih => simp only [List.map_cons, ih]
theorem Bel.full {a b : List Lf} (h : Bel a b) : ∀ f ∈ a, f.full = f := by
  induction h with
  | nil => simp
  | cons h ih =>
    intro f hf
    rcases List.mem_cons.1 hf with rfl | hf
    · rfl
    · exact ih f hf
theorem Bel.good {a b : List Lf} (h : Bel a b) (hg : ∀ f ∈ b, ∀ r ∈ f.rs, r.code = 0) : ∀ f ∈ a, ∀ r ∈ f.rs, r.code = 0 := by
  induction h with
  | nil => simp
  | cons h ih =>
    intro f hf r hr
    rcases List.mem_cons.1 hf with rfl | hf
    · exact hg _ (List.mem_cons_self ..) r (List.mem_of_mem_take hr)
    · exact ih (fun x hx => hg x (List.mem_cons_of_mem _ hx)) f hf r hr
theorem Bel.used {a b : List Lf} (h : Bel a b) : (a.map fun f => (bytes f.rs).length).sum ≤ (b.map fun f => (bytes f.rs).length).sum := by
  induction h with
  | nil => simp
  | @cons a b f m h ih =>
    have := bytes_take_le f.rs m
    simp only [List.map_cons, List.sum_cons]; omega
theorem Bel.len {a b : List Lf} (h : Bel a b) : a.length = b.length := by have := congrArg List.length h.names; simpa using this
theorem Bel.ok {a b : List Lf} (h : Bel a b) (ok : LOk b) : LOk a where
  up := by
    have h1 := List.pairwise_map (f := fun x : Lf => x.n) (R := fun x y : Int => x < y) (l := a)
    rw [h.names] at h1
    exact h1.1 (List.pairwise_map.2 ok.up)
  good := h.good ok.good
  k := fun f hf => by rw [← h.full f hf]; exact Nat.le_refl _
  tail := by
    refine List.pairwise_of_forall_mem_list fun x hx y hy hlt => ?_
    rw [← h.full x hx] at hlt
    exact absurd hlt (Nat.lt_irrefl _)
  lo := fun f hf => by
    have : f.n ∈ b.map (·.n) := by rw [← h.names]; exact List.mem_map.2 ⟨f, hf, rfl⟩
    obtain ⟨g, hg, e⟩ := List.mem_map.1 this
    rw [← e]; exact ok.lo g hg
  hi := fun f hf => by
    have : f.n ∈ b.map (·.n) := by rw [← h.names]; exact List.mem_map.2 ⟨f, hf, rfl⟩
    obtain ⟨g, hg, e⟩ := List.mem_map.1 this
    rw [← e]; exact ok.hi g hg
  used := by have := ok.used; rw [dk_used] at this ⊢; have := h.used; omega
  len := by rw [h.len]; exact ok.len
theorem Bel.lastN {a b : List Lf} (h : Bel a b) : Go.Proofs.YtihaajncebdioaaGreat.lastN a = Go.Proofs.YtihaajncebdioaaGreat.lastN b := by
  have h1 : ∀ l : List Lf, Go.Proofs.YtihaajncebdioaaGreat.lastN l = ((l.map (·.n)).getLast?).getD 0 := by
    intro l
    rcases List.eq_nil_or_concat l with rfl | ⟨p, f, rfl⟩
    · rfl
    · rw [List.concat_eq_append, lastN_app, List.map_append, List.map_cons, List.map_nil, List.getLast?_concat]; rfl
  rw [h1, h1, h.names]
theorem Bel.zero (b : List Lf) : Bel (b.map fun f => ⟨f.n, [], 0⟩) b := by
  induction b with
  | nil => exact .nil
  | cons f t ih => exact Bel.cons (f := f) (m := 0) ih
theorem crash_zero : ∀ (l : List Lf), (∀ f ∈ l, f.k = 0) → crashL l 0 = (l.map fun f => (⟨f.n, [], 0⟩ : Lf)).map Lf.file := by
  intro l
  induction l with
  | nil => intro _; rfl
  | cons f t ih =>
    intro h
    have hk := h f (List.mem_cons_self ..)
    unfold crashL
    rw [hk]
    have h1 : bytes (f.rs.take 0) = [] := rfl
    rw [h1]
    simp only [List.length_nil, Nat.zero_min, Nat.zero_add, Nat.zero_sub, List.take_zero, List.map_cons]
    rw [ih fun x hx => h x (List.mem_cons_of_mem _ hx)]
    rfl
theorem crash_split : ∀ (l : List Lf) (q : Nat), (∀ f ∈ l, ∀ r ∈ f.rs, r.code = 0) → (∀ f ∈ l, f.k ≤ f.rs.length) → (l.Pairwise fun a b => a.k < a.rs.length → b.k = 0) →
    (∃ l' m, crashL l q = l'.map Lf.file ∧ Bel l' l ∧ sumK l ≤ m ∧ m ≤ (recs l).length ∧ recs l' = (recs l).take m) ∨
    (∃ a f b pre j t m, l = a ++ f :: b ∧ Bel pre a ∧ crashL l q = pre.map Lf.file ++ ⟨f.n, bytes (f.rs.take j) ++ t, (bytes (f.rs.take j) ++ t).length⟩ :: b.map (fun g => ⟨g.n, [], 0⟩) ∧ Short t ∧ t ≠ [] ∧ (bytes (f.rs.take j) ++ t).length ≤ (bytes f.rs).length ∧
      sumK l ≤ m ∧ m ≤ (recs l).length ∧ recs pre ++ f.rs.take j = (recs l).take m) := by
  intro l
  induction l with
  | nil => intro q _ _ _; exact .inl ⟨[], 0, rfl, .nil, Nat.le_refl _, Nat.le_refl _, rfl⟩
  | cons f t ih =>
    intro q hg hk ht
    have hgf := hg f (List.mem_cons_self ..)
    have hkf := hk f (List.mem_cons_self ..)
    rw [List.pairwise_cons] at ht
    have hR : recs (f :: t) = f.rs ++ recs t := by unfold recs; simp
    have hS : sumK (f :: t) = f.k + sumK t := by unfold sumK; simp
    have hbl := congrArg List.length (bytes_take_drop f.rs f.k)
    rw [List.length_append] at hbl
    by_cases hq : (bytes (f.rs.drop f.k)).length ≤ q
    · have hc : crashL (f :: t) q = Lf.file f.full :: crashL t (q - (bytes (f.rs.drop f.k)).length) := by
        conv => lhs; unfold crashL
        rw [Nat.min_eq_right hq, hbl, List.take_length]
        simp [Lf.file, Lf.full]
      have hbel : ∀ {x : List Lf}, Bel x t → Bel (f.full :: x) (f :: t) := fun h => by
        have := Bel.cons (f := f) (m := f.rs.length) h
        rw [List.take_length] at this
        exact this
      rcases ih (q - (bytes (f.rs.drop f.k)).length) (fun x hx => hg x (List.mem_cons_of_mem _ hx)) (fun x hx => hk x (List.mem_cons_of_mem _ hx)) ht.2 with ⟨l', m, h1, h2, h3, h4, h5⟩ | ⟨a, g, b, pre, j, u, m, h1, h2, h3, h4, h5, h7, h8, h9, h10⟩
      · refine .inl ⟨f.full :: l', f.rs.length + m, by rw [hc, h1]; rfl, hbel h2, by rw [hS]; omega, by rw [hR, List.length_append]; omega, ?_⟩
        rw [hR, List.take_length_add_append, ← h5]
        unfold recs; simp [Lf.full]
      · refine .inr ⟨f :: a, g, b, f.full :: pre, j, u, f.rs.length + m, by rw [h1]; rfl, ?_, by rw [hc, h3]; rfl, h4, h5, h7, by rw [hS]; omega, by rw [hR, List.length_append]; omega, ?_⟩
        · have := Bel.cons (f := f) (m := f.rs.length) h2
          rw [List.take_length] at this
          exact this
        · rw [hR, List.take_length_add_append, ← h10]
          unfold recs; simp [Lf.full]
    · have hq : q < (bytes (f.rs.drop f.k)).length := by omega
      have hlt : f.k < f.rs.length := by
        rcases Nat.lt_or_ge f.k f.rs.length with h | h
        · exact h
        · rw [List.drop_eq_nil_of_le h] at hq; simp [bytes] at hq
      have hz : ∀ g ∈ t, g.k = 0 := fun g hg => ht.1 g hg hlt
      have hS0 : sumK t = 0 := by
        unfold sumK
        clear hR hS ih ht hk hg
        induction t with
        | nil => rfl
        | cons g t ih =>
          rw [List.map_cons, List.sum_cons, hz g (List.mem_cons_self ..), ih fun x hx => hz x (List.mem_cons_of_mem _ hx)]
      obtain ⟨j, u, h1, h2, h3⟩ := take_frames (f.rs.drop f.k) q (fun r hr => hgf r (List.mem_of_mem_drop hr)) (by omega)
      rw [List.length_drop] at h1
      have htk : (bytes f.rs).take ((bytes (f.rs.take f.k)).length + q) = bytes (f.rs.take (f.k + j)) ++ u := by
        rw [← bytes_take_drop f.rs f.k, List.take_length_add_append, h2, ← List.append_assoc, ← bytes_app, List.take_add]
      have hlen : (bytes (f.rs.take (f.k + j)) ++ u).length = (bytes (f.rs.take f.k)).length + q := by
        rw [← htk, List.length_take]; omega
      have hc : crashL (f :: t) q = ⟨f.n, bytes (f.rs.take (f.k + j)) ++ u, (bytes (f.rs.take (f.k + j)) ++ u).length⟩ :: (t.map fun g => (⟨g.n, [], 0⟩ : Lf)).map Lf.file := by
        conv => lhs; unfold crashL
        rw [Nat.min_eq_left (by omega), htk, Nat.sub_self, crash_zero t hz, hlen]
      have hm : (recs (f :: t)).take (f.k + j) = f.rs.take (f.k + j) := by rw [hR, List.take_append_of_le_length (by omega)]
      have hm2 : f.k + j ≤ (recs (f :: t)).length := by rw [hR, List.length_append]; omega
      rcases h3 with rfl | ⟨h3, h4⟩
      · refine .inl ⟨⟨f.n, f.rs.take (f.k + j), (f.rs.take (f.k + j)).length⟩ :: t.map (fun g => ⟨g.n, [], 0⟩), f.k + j, ?_, Bel.cons (Bel.zero t), by rw [hS, hS0]; omega, hm2, ?_⟩
        · rw [hc]
          simp only [List.append_nil, List.map_cons, Lf.file, List.take_length]
        · rw [hm]
          unfold recs
          simp only [List.map_cons, List.flatten_cons, List.map_map]
          have : (t.map (Lf.rs ∘ fun g => (⟨g.n, [], 0⟩ : Lf))).flatten = [] := by
            rw [List.flatten_eq_nil_iff]
            intro x hx
            obtain ⟨g, hg, rfl⟩ := List.mem_map.1 hx
            rfl
          rw [this, List.append_nil]
      · refine .inr ⟨[], f, t, [], f.k + j, u, f.k + j, rfl, .nil, ?_, h3, h4, by rw [hlen]; omega, by rw [hS, hS0]; omega, hm2, by rw [hm]; rfl⟩
        rw [hc, List.map_map]; rfl
end Go.Proofs.YtihaajncebdioaaGreat

/-
  Open behind a crash.
-/
set_option linter.unusedVariables false
set_option linter.unusedSimpArgs false
namespace Go.Proofs.YtihaajncebdioaaGreat
open Go Go.Sl

theorem pn_app (k : Int) (a b : List Pc) : pn k (a ++ b) = pn k a + pn k b := by unfold pn; simp
theorem pn_ps (f : Lf) : pn f.n f.ps = ((bytes (f.rs.drop f.k)).length : Int) := by
  have h1 : f.ps.filter (fun p => decide (p.f = f.n)) = f.ps := by
    rw [List.filter_eq_self]
    intro p hp
    exact decide_eq_true (ps_name hp)
  have h2 : ∀ l : List Rec, ((l.map fun r => (⟨f.n, (r.fr.length : Int)⟩ : Pc)).map (·.n)).sum = ((bytes l).length : Int) := by
    intro l
    induction l with
    | nil => rfl
    | cons r t ih => rw [List.map_cons, List.map_cons, List.sum_cons, ih, bytes_cons, List.length_append]; simp
  unfold pn
  rw [h1]
  exact h2 _
theorem pn_other {n : Int} : ∀ {l : List Lf}, (∀ f ∈ l, f.n ≠ n) → pn n (l.map Lf.ps).flatten = 0 := by
  intro l
  induction l with
  | nil => intro _; rfl
  | cons f t ih =>
    intro h
    rw [List.map_cons, List.flatten_cons, pn_app, ih fun x hx => h x (List.mem_cons_of_mem _ hx)]
    have : f.ps.filter (fun p => decide (p.f = n)) = [] := by
      rw [List.filter_eq_nil_iff]
      intro p hp
      rw [ps_name hp]
      simpa using h f (List.mem_cons_self ..)
    unfold pn
    rw [this]; rfl
theorem dk_wf {l : List Lf} (ok : LOk l) : WfI (dk l).fs (dk l).loose := by
  refine ⟨fun p hp => ?_, fun x hx => ?_⟩
  · obtain ⟨y, hy, hpy⟩ := List.mem_flatten.1 hp
    obtain ⟨f, hf, rfl⟩ := List.mem_map.1 hy
    have hn := ps_name hpy
    unfold Lf.ps at hpy
    obtain ⟨r, hr, rfl⟩ := List.mem_map.1 hpy
    exact ⟨by simp only []; omega, f.file, List.mem_map.2 ⟨f, hf, rfl⟩, rfl⟩
  · obtain ⟨f, hf, rfl⟩ := List.mem_map.1 hx
    obtain ⟨a, b, rfl⟩ := List.append_of_mem hf
    have hm := ok.mid_ne
    show (((bytes (f.rs.take f.k)).length : Nat) : Int) + pn f.n ((a ++ f :: b).map Lf.ps).flatten ≤ (bytes f.rs).length
    rw [List.map_append, List.flatten_append, List.map_cons, List.flatten_cons, pn_app, pn_app, pn_other (l := a) fun x hx => by have := hm.1 x hx; omega, pn_other (l := b) fun x hx => by have := hm.2 x hx; omega, pn_ps]
    have := congrArg List.length (bytes_take_drop f.rs f.k)
    rw [List.length_append] at this
    omega
theorem loose_sum {l : List Lf} : ((dk l).loose.map (·.n)).sum ≤ ((dk l).used : Int) := by
  rw [dk_used]
  unfold dk
  simp only []
  induction l with
  | nil => simp
  | cons f t ih =>
    have h1 := pn_ps f
    have h2 : f.ps.filter (fun p => decide (p.f = f.n)) = f.ps := by
      rw [List.filter_eq_self]
      intro p hp
      exact decide_eq_true (ps_name hp)
    unfold pn at h1
    rw [h2] at h1
    have h3 := congrArg List.length (bytes_take_drop f.rs f.k)
    rw [List.length_append] at h3
    simp only [List.map_cons, List.flatten_cons, List.map_append, List.sum_append, List.sum_cons, h1]
    omega
theorem crashD_ct {l : List Lf} (ok : LOk l) {d : Nat} {h : Hp} (hd : IsDk (dk l) d h) {keep : Int} (hk1 : -9223372036854775808 ≤ keep) (hk2 : keep ≤ 9223372036854775807) :
    Ct Tryz.prog 12 [.pointer (some ⟨d, 0, none⟩), .int .i64 keep] [h] (fun r H' => ∃ h', r = .int .i64 ((dk l).lost keep) ∧ H' = [h'] ∧ IsDk ⟨crashL l keep.toNat, []⟩ d h') := by
  have hu := ok.used
  have hs := loose_sum (l := l)
  rw [← dk_crash ok]
  exact crash_ct hd hk1 hk2 (dk_wf ok) (by omega) ok.loose (by omega)
theorem Bel.append {a b c d : List Lf} (h : Bel a b) (k : Bel c d) : Bel (a ++ c) (b ++ d) := by
  induction h with
  | nil => exact k
  | cons h ih => exact .cons ih
theorem crash_xok {l a b pre : List Lf} {f : Lf} {t : List UInt8} {j : Nat} (ok : LOk l) (hl : l = a ++ f :: b) (hb : Bel pre a) (hlen : (bytes (f.rs.take j) ++ t).length ≤ (bytes f.rs).length) :
    XOk pre ⟨f.n, bytes (f.rs.take j) ++ t, (bytes (f.rs.take j) ++ t).length⟩ (b.map (fun g => ⟨g.n, [], 0⟩)) ∧ LOk (pre ++ [⟨f.n, f.rs.take j, (f.rs.take j).length⟩]) := by
  subst hl
  have hnm : (pre.map Lf.file ++ ⟨f.n, bytes (f.rs.take j) ++ t, (bytes (f.rs.take j) ++ t).length⟩ :: b.map (fun g => (⟨g.n, [], 0⟩ : FileP))).map (·.n) = (a ++ f :: b).map (·.n) := by
    have h1 := hb.names
    simp only [List.map_append, List.map_cons, List.map_map] at h1 ⊢
    have h2 : pre.map ((fun x : FileP => x.n) ∘ Lf.file) = pre.map (·.n) := rfl
    have h3 : b.map ((fun x : FileP => x.n) ∘ fun g : Lf => (⟨g.n, [], 0⟩ : FileP)) = b.map (·.n) := rfl
    rw [h2, h3, h1]
  have hmem : ∀ x ∈ pre.map Lf.file ++ ⟨f.n, bytes (f.rs.take j) ++ t, (bytes (f.rs.take j) ++ t).length⟩ :: b.map (fun g => (⟨g.n, [], 0⟩ : FileP)), ∃ g ∈ a ++ f :: b, g.n = x.n := by
    intro x hx
    have : x.n ∈ (a ++ f :: b).map (·.n) := by rw [← hnm]; exact List.mem_map.2 ⟨x, hx, rfl⟩
    obtain ⟨g, hg, e⟩ := List.mem_map.1 this
    exact ⟨g, hg, e⟩
  have hb2 : Bel (pre ++ [⟨f.n, f.rs.take j, (f.rs.take j).length⟩]) (a ++ [f]) := hb.append (.cons .nil)
  refine ⟨⟨by rw [hnm]; exact List.pairwise_map.2 ok.up, fun x hx => ?_, ?_, hb.full, ?_, ?_⟩, hb2.ok (LOk.ini (post := b) (by simpa using ok))⟩
  · obtain ⟨g, hg, e⟩ := hmem x hx
    rw [← e]
    exact ⟨ok.lo g hg, ok.hi g hg⟩
  · exact hb.good fun g hg => ok.good g (List.mem_append_left _ hg)
  · have h1 := ok.used
    have h2 := hb.used
    have h3 : ((b.map fun g : Lf => (⟨g.n, [], 0⟩ : FileP)).map (·.b.length)).sum = 0 := by
      clear hnm hmem hb2 h1 h2 ok
      induction b with
      | nil => rfl
      | cons y z ih => simpa using ih
    have h4 : ((pre.map Lf.file).map (·.b.length)).sum = (pre.map fun f => (bytes f.rs).length).sum := by rw [List.map_map]; rfl
    rw [dk_used] at h1
    unfold DkS.used dkX
    simp only [List.map_append, List.map_cons, List.sum_append, List.sum_cons] at h1 ⊢
    rw [h3, h4]
    omega
  · have h1 := ok.len
    have h2 := hb.len
    simp only [List.length_append, List.length_cons, List.length_map] at h1 ⊢
    omega
/-- What Open tells behind a crash. -/
theorem open_crash {l : List Lf} (ok : LOk l) (q : Nat) {d : Nat} {h : Hp} (hd : IsDk ⟨crashL l q, []⟩ d h) :
    Ct Tryz.prog 9 [.pointer (some ⟨d, 0, none⟩)] [h] (fun res H' => ∃ w u h' ho l' m, ∃ torn : Int, res = .tuple #[.pointer (some ⟨w, 0, none⟩), u] ∧ H' = [WBk w d (lastN l') torn, h', ho] ∧ IsDk (dk l') d h' ∧ IsSl 51 (outF (recs l')) u ho ∧
      LOk l' ∧ (∀ f ∈ l', f.full = f) ∧ sumK l ≤ m ∧ m ≤ (recs l).length ∧ recs l' = (recs l).take m) := by
  rcases crash_split l q ok.good ok.k ok.tail with ⟨l', m, h1, h2, h3, h4, h5⟩ | ⟨a, f, b, pre, j, t, m, h1, h2, h3, h4, h5, h6, h7, h8, h9⟩
  · have e : (⟨crashL l q, []⟩ : DkS) = dk l' := by
      unfold dk
      rw [h1]
      congr 1
      symm
      rw [List.flatten_eq_nil_iff]
      intro z hz
      obtain ⟨x, hx, rfl⟩ := List.mem_map.1 hz
      rw [← h2.full x hx]
      exact x.full_ps
    rw [e] at hd
    refine Ct.mono (open_whole (h2.ok ok) hd) ?_
    rintro r H' ⟨w, u, h', ho, e1, e2, e3, e4⟩
    exact ⟨w, u, h', ho, l', m, 0, e1, e2, e3, e4, h2.ok ok, h2.full, h3, h4, h5⟩
  · obtain ⟨ox, ok2⟩ := crash_xok ok h1 h2 h6
    have e : (⟨crashL l q, []⟩ : DkS) = dkX pre ⟨f.n, bytes (f.rs.take j) ++ t, (bytes (f.rs.take j) ++ t).length⟩ (b.map (fun g => ⟨g.n, [], 0⟩)) := by unfold dkX; rw [h3]
    rw [e] at hd
    have hg : ∀ r ∈ f.rs.take j, r.code = 0 := fun r hr => ok.good f (by rw [h1]; simp) r (List.mem_of_mem_take hr)
    refine Ct.mono (open_torn ox rfl rfl hg h4 h5 hd) ?_
    rintro r H' ⟨w, u, h', ho, e1, e2, e3, e4⟩
    have hrc : recs (pre ++ [⟨f.n, f.rs.take j, (f.rs.take j).length⟩]) = (recs l).take m := by rw [recs_app, recs_one]; exact h9
    refine ⟨w, u, h', ho, pre ++ [⟨f.n, f.rs.take j, (f.rs.take j).length⟩], m, _, e1, by rw [lastN_app]; exact e2, e3, by rw [recs_app, recs_one]; exact e4, ok2, fun x hx => ?_, h7, h8, hrc⟩
    rcases List.mem_append.1 hx with hx | hx
    · exact h2.full x hx
    · rw [List.mem_singleton.1 hx]; rfl
end Go.Proofs.YtihaajncebdioaaGreat

/-
  The statements' own helpers.
-/
set_option linter.unusedVariables false
set_option linter.unusedSimpArgs false
namespace Go.Sl
open Go
section
variable {g : World} {P : Program} {ops : Array Oper} {Q : Exit → Act → World → Prop} {n : Nat} {rest : List Oper} {L : Fm} {H : HH} {q : Bool}
variable {d : Nat} {ty : TypeId} {pos : String} {af : Array Edge} {x y : Operand} {t t' a b : Nat} {i j : Int}
theorem WX.quoN (hx : ev L x = some (.int .i64 i)) (hy : ev L y = some (.int .i64 j)) (e : i = (a : Int)) (e' : j = (b : Int)) (hb : 0 < b) (ha : a ≤ 4611686018427387904) (hd : Nat.blt d n = true)
    (k : WX q g P ops Q n rest ((d, .int .i64 ((a / b : Nat) : Int)) :: L) H) : WX q g P ops Q n (⟨some d, .binOp .quo t x y t', ty, pos, af, none⟩ :: rest) L H := by
  subst e; subst e'
  refine WX.quo hx hy hd (by omega) ?_
  have h1 : IntKind.i64.wrap ((a : Int).tdiv (b : Int)) = ((a / b : Nat) : Int) := by
    have h2 : ((a : Int).tdiv (b : Int)) = ((a / b : Nat) : Int) := rfl
    have h3 : a / b ≤ a := Nat.div_le_self _ _
    rw [h2]
    generalize a / b = c at h3 ⊢
    exact IntWalk.i64_in _ (by omega)
  rw [h1]
  exact k
end
end Go.Sl
namespace Go.Proofs.YtihaajncebdioaaGreat
open Go Go.Sl

/-- A step of a script, as it lies in a slice. -/
structure Av where
  k : Int
  p : Option Addr
  l : Nat
  c : Nat
  n : Int
instance : Enc Av := ⟨3, fun a => [.int .i64 a.k, .slice a.p a.l a.c, .int .i64 a.n], fun _ => rfl, fun _ => rfl, by decide⟩
def Av.v (a : Av) : Value := .slice a.p a.l a.c
theorem torn_ct (w d : Nat) (seg torn : Int) : Ct Tryz.prog 13 [.pointer (some ⟨w, 0, none⟩)] [WBk w d seg torn] (fun r H' => r = .int .i64 torn ∧ H' = [WBk w d seg torn]) := by
  refine Ct.mk' Tryz.func13 rfl rfl rfl (fun g R => ?_)
  try simp only [List.cons_append]
  simp only [List.nil_append]
  repeat' (first | refine go ?_ | refine mv ?_ | (refine I.ld ?_; refine ld rfl ?_) | refine asg ?_ | (refine I.fa ?_; refine fa ?_) | (refine I.nc ?_; refine nc ?_) | fail)
  exact D.fin1 [WBk w d seg torn] _ rfl rfl ⟨rfl, rfl⟩
theorem segment_ct (w d : Nat) (seg torn : Int) : Ct Tryz.prog 21 [.pointer (some ⟨w, 0, none⟩)] [WBk w d seg torn] (fun r H' => r = .int .i64 seg ∧ H' = [WBk w d seg torn]) := by
  refine Ct.mk' Tryz.func21 rfl rfl rfl (fun g R => ?_)
  try simp only [List.cons_append]
  simp only [List.nil_append]
  repeat' (first | refine go ?_ | refine mv ?_ | (refine I.ld ?_; refine ld rfl ?_) | refine asg ?_ | (refine I.fa ?_; refine fa ?_) | (refine I.nc ?_; refine nc ?_) | fail)
  exact D.fin1 [WBk w d seg torn] _ rfl rfl ⟨rfl, rfl⟩

set_option maxHeartbeats 1000000 in
theorem same_ct {xs ys : List Rec} {u v : Value} {hu hv : Hp} (hx : Rs xs u hu) (hy : Rs ys v hv) (hl : xs.length ≤ 1099511627776) (hl2 : ys.length ≤ 1099511627776) :
    Ct Tryz.prog 15 [u, v] [hu, hv] (fun r H' => r = .bool (decide (xs = ys)) ∧ H' = [hu, hv]) := by
  refine Ct.mk' Tryz.func15 rfl rfl rfl (fun g R => ?_)
  try simp only [List.cons_append]
  simp only [List.nil_append]
  by_cases hne : xs.length = ys.length
  · repeat' (first | refine go ?_ | refine mv ?_ | refine asg ?_ | (refine I.bin ?_; refine cm rfl rfl ?_) | (refine I.cond ?_; refine cN ?_) | (refine I.bi ?_; refine ln rfl (by assumption) ?_) | fail)
    refine W.loop (α := Nat) (fun i => i ≤ xs.length ∧ xs.take i = ys.take i) (fun i => [(0, u), (1, v), (5, .int .i64 (i : Int))]) (fun _ => [hu, hv, R]) (fun i => xs.length - i) 0 ⟨Nat.zero_le _, rfl⟩ (by repeat (first | exact Fsub.nil | refine Fsub.cons rfl ?_)) (Hsub.of_picks inferInstance) ?_
    intro i ⟨hi, he⟩
    by_cases hlt : i < xs.length
    · obtain ⟨x, hxi⟩ : ∃ x, xs[i]? = some x := ⟨_, List.getElem?_eq_getElem hlt⟩
      obtain ⟨y, hyi⟩ : ∃ y, ys[i]? = some y := ⟨_, List.getElem?_eq_getElem (by omega)⟩
      have hcmp := rec_eq x y
      repeat' (first | refine go ?_ | refine mv ?_ | (refine I.bin ?_; refine cm rfl rfl ?_) | (refine I.cond ?_; refine cP ?_) | (refine I.bi ?_; refine ln rfl (by assumption) ?_) | fail)
      refine W.quiet Tryz.mix (by kernel_rfl) ?_
      by_cases hq : x = y
      · rw [decide_eq_true hq] at hcmp
        repeat' (first | refine go ?_ | refine mv ?_ | (refine I.ld ?_; refine lF rfl (by assumption) ?_) | refine asg ?_ | (refine I.bin ?_; refine ad ?_) | (refine I.cond ?_; refine cF ?_) | (refine I.ix ?_; refine ix rfl rfl ?_) | (refine I.bin ?_; refine WX.neqA rfl rfl hcmp rfl ?_) | fail)
        refine D.round (i + 1) ⟨by omega, ?_⟩ (by omega) (by repeat (first | exact Fsub.nil | refine Fsub.cons rfl ?_)) (Hsub.of_picks inferInstance)
        rw [List.take_succ_eq_append_getElem hlt, List.take_succ_eq_append_getElem (by omega : i < ys.length), he, (List.getElem?_eq_some_iff.1 hxi).2, (List.getElem?_eq_some_iff.1 hyi).2, hq]
      · rw [decide_eq_false hq] at hcmp
        repeat' (first | refine go ?_ | refine mv ?_ | (refine I.ld ?_; refine lF rfl (by assumption) ?_) | refine asg ?_ | (refine I.cond ?_; refine cT ?_) | (refine I.ix ?_; refine ix rfl rfl ?_) | (refine I.bin ?_; refine WX.neqA rfl rfl hcmp rfl ?_) | fail)
        exact D.fin1 [hu, hv] _ rfl rfl ⟨by rw [decide_eq_false]; intro e; rw [e, hyi] at hxi; exact hq (Option.some.inj hxi).symm, rfl⟩
    · obtain rfl : i = xs.length := by omega
      rw [List.take_length, hne, List.take_length] at he
      repeat' (first | refine go ?_ | refine mv ?_ | refine asg ?_ | (refine I.bin ?_; refine cm rfl rfl ?_) | (refine I.cond ?_; refine cN ?_) | (refine I.bi ?_; refine ln rfl (by assumption) ?_) | fail)
      exact D.fin1 [hu, hv] _ rfl rfl ⟨by rw [decide_eq_true he], rfl⟩
  · repeat' (first | refine go ?_ | refine mv ?_ | refine asg ?_ | (refine I.bin ?_; refine cm rfl rfl ?_) | (refine I.cond ?_; refine cP ?_) | (refine I.bi ?_; refine ln rfl (by assumption) ?_) | fail)
    exact D.fin1 [hu, hv] _ rfl rfl ⟨by rw [decide_eq_false (fun e => hne (by rw [e]))], rfl⟩

/-- The weight of records. -/
def wRs (rs : List Rec) : Nat := (rs.map fun r => r.size / 100).sum
def wAc (rs : List Rec) : Nat := rs.length + wRs rs
theorem wRs_take {rs : List Rec} {k : Nat} {r : Rec} (h : rs[k]? = some r) : wRs (rs.take (k + 1)) = wRs (rs.take k) + r.size / 100 := by
  obtain ⟨h1, h2⟩ := List.getElem?_eq_some_iff.1 h
  unfold wRs
  rw [List.take_succ_eq_append_getElem h1, h2]; simp

set_option maxHeartbeats 2000000 in
theorem much_ct {avs : List Av} {rss : List (List Rec)} {v : Value} {h : Hp} (hr : Rs avs v h) (hl : avs.length = rss.length) (hlen : avs.length ≤ 4398046511104) (hrs : ∀ (i : Nat) (a : Av) (rs : List Rec), avs[i]? = some a → rss[i]? = some rs → Rs rs a.v h ∧ rs.length ≤ 1099511627776 ∧ ∀ r ∈ rs, r.size ≤ 562949953421312) :
    Ct Tryz.prog 5 [v] [h] (fun r H' => ∃ b, r = .bool b ∧ H' = [h] ∧ (b = false → avs.length + (rss.map wAc).sum ≤ 400)) := by
  refine Ct.mk' Tryz.func5 rfl rfl rfl (fun g R => ?_)
  try simp only [List.cons_append]
  simp only [List.nil_append]
  repeat' (first | refine go ?_ | refine mv ?_ | refine asg ?_ | (refine I.bi ?_; refine ln rfl (by assumption) ?_) | fail)
  refine W.loop (α := Nat × Nat) (fun x => x.1 ≤ avs.length ∧ x.2 ≤ 10995116277760 ∧ (x.2 ≤ 400 → x.2 = avs.length + ((rss.take x.1).map wAc).sum))
    (fun x => [(0, v), (3, .int .i64 (x.2 : Int)), (4, .int .i64 (x.1 : Int))]) (fun _ => [h, R]) (fun x => avs.length - x.1) (0, avs.length) ⟨Nat.zero_le _, by simp only []; omega, fun _ => by simp⟩ (by repeat (first | exact Fsub.nil | refine Fsub.cons rfl ?_)) (Hsub.of_picks inferInstance) ?_
  rintro ⟨i, n⟩ ⟨hi, hn0, hn⟩
  simp only [] at hi hn hn0 ⊢
  by_cases hlt : i < avs.length
  · by_cases h4 : n ≤ 400
    · obtain ⟨a, ha⟩ : ∃ a, avs[i]? = some a := ⟨_, List.getElem?_eq_getElem hlt⟩
      obtain ⟨rs, hrsi⟩ : ∃ rs, rss[i]? = some rs := ⟨_, List.getElem?_eq_getElem (by omega)⟩
      obtain ⟨hra, hl1, hz⟩ := hrs i a rs ha hrsi
      have hn := hn h4
      have htk : ((rss.take (i + 1)).map wAc).sum = ((rss.take i).map wAc).sum + wAc rs := by
        rw [List.take_succ_eq_append_getElem (by omega), (List.getElem?_eq_some_iff.1 hrsi).2]; simp
      obtain ⟨ak, ap, al, ac, an⟩ := a
      have hra : Rs rs (.slice ap al ac) h := hra
      repeat' (first | refine go ?_ | refine mv ?_ | (refine I.ld ?_; refine lE rfl (by assumption) ?_) | refine asg ?_ | (refine I.gd ?_; first | refine gy ?_ | refine gT ?_) | (refine I.fa ?_; refine fE rfl ?_) | (refine I.bin ?_; first | refine cm rfl rfl ?_ | refine ad ?_) | (refine I.pk ?_; refine pT ?_) | (refine I.cond ?_; refine cP ?_) | (refine I.bi ?_; refine ln rfl (by assumption) ?_) | (refine I.ix ?_; refine ix rfl rfl ?_) | fail)
      refine W.loop (α := Nat × Nat) (fun x => x.1 ≤ rs.length ∧ x.2 ≤ 10995116277760 ∧ (x.2 ≤ 400 → x.2 = n + rs.length + wRs (rs.take x.1)))
        (fun x => [(0, v), (3, .int .i64 (x.2 : Int)), (4, .int .i64 (i : Int)), (5, .int .i64 (x.1 : Int))]) (fun _ => [h, R]) (fun x => rs.length - x.1) (0, n + rs.length) ⟨Nat.zero_le _, by simp only []; omega, fun _ => by simp [wRs]⟩ (by repeat (first | exact Fsub.nil | refine Fsub.cons rfl ?_)) (Hsub.of_picks inferInstance) ?_
      rintro ⟨k, m⟩ ⟨hk, hm0, hm⟩
      simp only [] at hk hm hm0 ⊢
      by_cases hkl : k < rs.length
      · by_cases hm4 : m ≤ 400
        · obtain ⟨r, hrk⟩ : ∃ r, rs[k]? = some r := ⟨_, List.getElem?_eq_getElem hkl⟩
          have hrz := hz r (List.mem_of_getElem? hrk)
          have hwt := wRs_take hrk
          have hm := hm hm4
          have hkv : r.e.key.size + r.e.val.size = r.size := rfl
          have hq : r.size / 100 ≤ 562949953421312 / 100 := Nat.div_le_div_right hrz
          repeat' (first | refine go ?_ | refine mv ?_ | (refine I.ld ?_; refine lE rfl (by assumption) ?_) | (refine I.gd ?_; first | refine gy ?_ | refine gT ?_) | (refine I.fa ?_; refine fE rfl ?_) | (refine I.bin ?_; refine cm rfl rfl ?_) | (refine I.pk ?_; refine pT ?_) | (refine I.cond ?_; refine cP ?_) | (refine I.bi ?_; refine ln rfl (by assumption) ?_) | (refine I.ix ?_; refine ix rfl rfl ?_) | fail)
          refine W.quiet Tryz.mix (by kernel_rfl) ?_
          repeat' (first | refine go ?_ | refine mv ?_ | (refine I.ld ?_; refine lE rfl (by assumption) ?_) | refine asg ?_ | (refine I.fa ?_; refine fE rfl ?_) | (refine I.bin ?_; refine ad ?_) | (refine I.bi ?_; refine lS ?_) | (refine I.ix ?_; refine ix rfl rfl ?_) | (refine I.bin ?_; refine WX.quoN (a := r.size) (b := 100) rfl rfl (by rw [← hkv, Int.natCast_add]) rfl (by decide) (by omega) rfl ?_) | fail)
          exact D.round (k + 1, m + r.size / 100) ⟨by simp only []; omega, by simp only []; omega, fun _ => by simp only []; rw [hwt]; omega⟩ (by simp only []; omega) (by repeat (first | exact Fsub.nil | refine Fsub.cons rfl ?_)) (Hsub.of_picks inferInstance)
        · repeat' (first | refine go ?_ | refine mv ?_ | (refine I.ld ?_; refine lE rfl (by assumption) ?_) | refine asg ?_ | (refine I.gd ?_; first | refine gy ?_ | refine gT ?_) | (refine I.fa ?_; refine fE rfl ?_) | (refine I.bin ?_; first | refine cm rfl rfl ?_ | refine ad ?_) | (refine I.pk ?_; refine pT ?_) | (refine I.cond ?_; refine cN ?_) | (refine I.bi ?_; refine ln rfl (by assumption) ?_) | (refine I.ix ?_; refine ix rfl rfl ?_) | fail)
          exact D.round (i + 1, m) ⟨by simp only []; omega, by simp only []; omega, fun h => by simp only [] at h; omega⟩ (by simp only []; omega) (by repeat (first | exact Fsub.nil | refine Fsub.cons rfl ?_)) (Hsub.of_picks inferInstance)
      · obtain rfl : k = rs.length := by omega
        rw [List.take_length] at hm
        repeat' (first | refine go ?_ | refine mv ?_ | (refine I.ld ?_; refine lE rfl (by assumption) ?_) | refine asg ?_ | (refine I.gd ?_; first | refine gn ?_ | refine gF ?_) | (refine I.fa ?_; refine fE rfl ?_) | (refine I.bin ?_; first | refine cm rfl rfl ?_ | refine ad ?_) | (refine I.pk ?_; refine pF ?_) | (refine I.cond ?_; refine cF ?_) | (refine I.bi ?_; refine ln rfl (by assumption) ?_) | (refine I.ix ?_; refine ix rfl rfl ?_) | fail)
        exact D.round (i + 1, m) ⟨by simp only []; omega, by simp only []; omega, fun h => by simp only [] at h ⊢; rw [htk, hm h, show wAc rs = rs.length + wRs rs from rfl]; omega⟩ (by simp only []; omega) (by repeat (first | exact Fsub.nil | refine Fsub.cons rfl ?_)) (Hsub.of_picks inferInstance)
    · repeat' (first | refine go ?_ | refine mv ?_ | refine asg ?_ | (refine I.gd ?_; first | refine gy ?_ | refine gT ?_) | (refine I.bin ?_; refine cm rfl rfl ?_) | (refine I.pk ?_; refine pT ?_) | (refine I.cond ?_; refine cN ?_) | (refine I.bi ?_; refine ln rfl (by assumption) ?_) | fail)
      exact D.fin1 [h] _ rfl rfl ⟨_, rfl, rfl, fun h => by have := of_decide_eq_false h; omega⟩
  · obtain rfl : i = avs.length := by omega
    rw [hl, List.take_length] at hn
    repeat' (first | refine go ?_ | refine mv ?_ | refine asg ?_ | (refine I.gd ?_; first | refine gn ?_ | refine gF ?_) | (refine I.bin ?_; refine cm rfl rfl ?_) | (refine I.pk ?_; refine pF ?_) | (refine I.cond ?_; refine cF ?_) | (refine I.bi ?_; refine ln rfl (by assumption) ?_) | fail)
    exact D.fin1 [h] _ rfl rfl ⟨_, rfl, rfl, fun h => by have := of_decide_eq_false h; rw [hl]; rw [← hn (by omega)]; omega⟩
end Go.Proofs.YtihaajncebdioaaGreat

/-
  able is true.
-/
set_option linter.unusedVariables false
set_option linter.unusedSimpArgs false
namespace Go.Proofs.YtihaajncebdioaaGreat
open Go Go.Sl

def en1 : Rec := ⟨2, Ent.z, Cfg.z, 1⟩
def en2 : Rec := ⟨2, Ent.z, Cfg.z, 2⟩
theorem en1_code : en1.code = 0 := rfl
theorem en2_code : en2.code = 0 := rfl
theorem en1_len : 6 ≤ en1.fr.length ∧ en1.fr.length ≤ 243 := (Rec.good en1_code).fr_le
theorem en2_len : 6 ≤ en2.fr.length ∧ en2.fr.length ≤ 243 := (Rec.good en2_code).fr_le
theorem bytes_one (r : Rec) : bytes [r] = r.fr := by rw [bytes_cons, bytes_nil, List.append_nil]
theorem ladd_one {l : List Lf} {r : Rec} : ladd l [r] = ladd1 l r := by
  unfold ladd
  split
  · rfl
  · rename_i h
    unfold ladd
    exact Prod.ext rfl (by simpa using Eq.symm (Classical.not_not.1 h))

theorem able_1 : ladd [] [en1] = ([⟨0, [en1], 0⟩], 0) := by
  unfold ladd ladd1
  rw [if_neg (by rw [en1_code]; simp)]
  rfl
theorem able_2 : lsync [⟨0, [en1], 0⟩] = [⟨0, [en1], 1⟩] := rfl
theorem able_3 : ladd [⟨0, [en1], 1⟩] [en2] = ([⟨0, [en1, en2], 1⟩], 0) := by
  have h1 := en1_len
  have h2 := en2_len
  rw [ladd_one]
  unfold ladd1
  rw [if_neg (by rw [en2_code]; simp)]
  simp only [List.getLast?_singleton]
  rw [if_neg (by rw [bytes_one]; omega), if_neg (by rw [dk_used]; simp only [List.map_cons, List.map_nil, bytes_one, List.sum_cons, List.sum_nil]; omega)]
  rfl
theorem able_4 : crashL [⟨0, [en1, en2], 1⟩] 3 = [⟨0, bytes [en1] ++ en2.fr.take 3, (bytes [en1] ++ en2.fr.take 3).length⟩] := by
  have h2 := en2_len
  have e1 : [en1, en2].take 1 = [en1] := rfl
  have e2 : [en1, en2].drop 1 = [en2] := rfl
  have e3 : min 3 en2.fr.length = 3 := by omega
  have e4 : bytes [en1, en2] = en1.fr ++ en2.fr := by rw [bytes_cons, bytes_one]
  unfold crashL
  simp only [e1, e2, e3, e4, bytes_one, List.take_length_add_append, List.length_append, List.length_take]
  rfl
theorem able_x : XOk [] ⟨0, bytes [en1] ++ en2.fr.take 3, (bytes [en1] ++ en2.fr.take 3).length⟩ [] where
  up := List.pairwise_singleton ..
  lo := fun f hf => by
    simp only [List.map_nil, List.nil_append, List.mem_singleton] at hf
    subst hf
    decide
  good := by simp
  full := by simp
  used := by
    have h1 := en1_len
    unfold DkS.used dkX
    simp only [List.map_nil, List.nil_append, List.map_cons, List.sum_cons, List.sum_nil, bytes_one, List.length_append, List.length_take]
    omega
  len := by simp
set_option maxHeartbeats 1000000 in
theorem able_ct : Ct Tryz.prog 4 [] [] (fun r H' => r = .bool true ∧ H' = []) := by
  have ok1 : LOk [⟨0, [en1], 0⟩] := by have := LOk.nil.add [en1]; rw [able_1] at this; exact this
  have ok2 : LOk [⟨0, [en1], 1⟩] := ok1.sync
  have ok3 : LOk [⟨0, [en1, en2], 1⟩] := by have := ok2.add [en2]; rw [able_3] at this; exact this
  have hz : ∀ r ∈ [en1], r.size ≤ 1073741824 := by intro r hr; rw [List.mem_singleton.1 hr]; decide
  have hz2 : ∀ r ∈ [en2], r.size ≤ 1073741824 := by intro r hr; rw [List.mem_singleton.1 hr]; decide
  have h2 := en2_len
  refine Ct.mk' Tryz.func4 rfl rfl rfl (fun g R => ?_)
  try simp only [List.cons_append]
  simp only [List.nil_append]
  repeat' (first | refine go ?_ | refine asg ?_ | fail)
  refine WX.call rfl dnew_ct rfl ?_
  rintro _ _ ⟨d, h0, rfl, rfl, hd0⟩
  have hd0 : IsDk (dk []) d h0 := hd0
  simp only [List.cons_append, List.nil_append]
  repeat' (first | refine go ?_ | refine mv ?_ | refine asg ?_ | (refine I.bin ?_; refine np rfl rfl ?_) | (refine I.cond ?_; refine cF ?_) | fail)
  refine WX.call rfl (open_whole LOk.nil hd0) rfl ?_
  rintro _ _ ⟨w, u, h1, ho, rfl, rfl, hd1, hso⟩
  simp only [List.cons_append, List.nil_append]
  repeat' (first | refine go ?_ | refine mv ?_ | refine asg ?_ | (refine I.bin ?_; refine np rfl rfl ?_) | (refine I.cond ?_; refine cF ?_) | refine ex ?_ | refine bd ?_ | fail)
  refine I.bs ?_
  refine WX.lit (ys := [en1]) rfl rfl rfl rfl rfl rfl (by decide) rfl (fun v2 h2 hs2 => ?_)
  skip
  have had := add_ct LOk.nil hd1 hs2.rs (by decide) hz (w := w) (torn := 0)
  rw [able_1] at had
  refine WX.call rfl had rfl ?_
  rintro _ _ ⟨h3, rfl, rfl, hd3⟩
  simp only [List.cons_append, List.nil_append]
  repeat' (first | refine go ?_ | refine mv ?_ | fail)
  refine WX.call rfl (sync_ct ok1 hd3 (w := w) (seg := lastN [⟨0, [en1], 0⟩]) (torn := 0)) rfl ?_
  rintro _ _ ⟨h4, rfl, rfl, hd4⟩
  rw [able_2] at hd4
  simp only [List.cons_append, List.nil_append]
  repeat' (first | refine go ?_ | refine mv ?_ | refine bd ?_ | fail)
  refine I.bs ?_
  refine WX.lit (ys := [en2]) rfl rfl rfl rfl rfl rfl (by decide) rfl (fun v5 h5 hs5 => ?_)
  skip
  have had2 := add_ct ok2 hd4 hs5.rs (by decide) hz2 (w := w) (torn := 0)
  rw [able_3, show lastN [(⟨0, [en1], 1⟩ : Lf)] = lastN [⟨0, [en1], 0⟩] from rfl] at had2
  refine WX.call rfl had2 rfl ?_
  rintro _ _ ⟨h6, rfl, rfl, hd6⟩
  simp only [List.cons_append, List.nil_append]
  repeat' (first | refine go ?_ | refine mv ?_ | fail)
  refine WX.call rfl (crashD_ct ok3 hd6 (keep := 3) (by decide) (by decide)) rfl ?_
  rintro _ _ ⟨h7, rfl, rfl, hd7⟩
  rw [show (3 : Int).toNat = 3 from rfl, able_4] at hd7
  simp only [List.cons_append, List.nil_append]
  repeat' (first | refine go ?_ | refine mv ?_ | fail)
  refine WX.call rfl (open_torn able_x rfl rfl (by intro r hr; rw [List.mem_singleton.1 hr]; exact en1_code) ⟨en2, 3, en2_code, by omega, rfl⟩ (by intro e; have := congrArg List.length e; rw [List.length_take] at this; simp only [List.length_nil] at this; omega) hd7) rfl ?_
  rintro _ _ ⟨w2, u2, h8, ho8, rfl, rfl, hd8, hs8⟩
  have h3 : ((en2.fr.take 3).length + (([] : List FileP).map (·.b.length)).sum : Nat) = 3 := by rw [List.length_take]; simp only [List.map_nil, List.sum_nil]; omega
  have e8 : outF (recs [] ++ [en1]) = [en1] := rfl
  rw [e8] at hs8
  have hr8 := hs8.rs
  have h80 : [en1][(0 : Int).toNat]? = some en1 := rfl
  rw [h3]
  simp only [List.cons_append, List.nil_append]
  repeat' (first | refine go ?_ | refine mv ?_ | (refine I.ld ?_; refine lE rfl (by assumption) ?_) | refine asg ?_ | (refine I.gd ?_; refine gy ?_) | (refine I.fa ?_; refine fE rfl ?_) | (refine I.bin ?_; first | refine cm rfl rfl ?_ | refine np rfl rfl ?_) | (refine I.pk ?_; refine pT ?_) | (refine I.bi ?_; refine ln rfl (by assumption) ?_) | (refine I.ix ?_; refine ix rfl rfl ?_) | refine ex ?_ | fail)
  refine WX.callQ rfl (torn_ct w2 d 0 ((3 : Nat) : Int)) rfl ?_
  repeat' (first | refine go ?_ | refine asg ?_ | (refine I.gd ?_; refine gy ?_) | (refine I.bin ?_; refine cm rfl rfl ?_) | (refine I.pk ?_; refine pT ?_) | fail)
  exact D.fin1 [] _ rfl rfl ⟨rfl, rfl⟩
end Go.Proofs.YtihaajncebdioaaGreat
