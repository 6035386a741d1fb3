/-
  Texts of one road, one behind the other.
-/
import Derived.Test.YtfcefidmdijjkaaGreatQMPg
import Derived.Test.YtfcefidmdijjkaaGreatQMPe
import Derived.Test.YtfcefidmdijjkaaGreatQMPf
import Derived.Test.YtfcefidmdijjkaaGreatQMPi
import Derived.Test.YtfcefidmdijjkaaGreatQMPj
set_option linter.unusedVariables false
set_option linter.unusedSimpArgs false
namespace Go.Proofs.YtfcefidmdijjkaaGreat
open Go Go.Sl
def mixC (s s' : MS) (k : Nat) : Nat → Cfg := fun i => if i < k then (s'.ch i).cfg else (s.ch i).cfg
theorem mixC_0 (s s' : MS) (n : Nat) : rowF n (mixC s s' 0) = rowF n fun i => (s.ch i).cfg := rowF_congr fun i _ => if_neg (Nat.not_lt_zero _)
theorem mixC_all (s s' : MS) (n : Nat) : rowF n (mixC s s' n) = rowF n fun i => (s'.ch i).cfg := rowF_congr fun i hi => if_pos hi
theorem mixC_set (s s' : MS) (n k : Nat) : (rowF n (mixC s s' k)).set k (s'.ch k).cfg = rowF n (mixC s s' (k + 1)) := by
 rw [rowF_set]
 refine rowF_congr fun i _ => ?_
 unfold updF mixC
 by_cases h : i = k
 ·subst h; rw [if_pos rfl, if_pos (by omega)]
 ·rw [if_neg h]
  by_cases h2 : i < k
  ·rw [if_pos h2, if_pos (by omega)]
  ·rw [if_neg h2, if_neg (by omega)]
theorem mixC_at (s s' : MS) (k : Nat) : mixC s s' k k = (s.ch k).cfg := if_neg (Nat.lt_irrefl _)
set_option maxRecDepth 10000 in
set_option maxHeartbeats 1000000 in
theorem mrises_ct {a b c e : Int} (i1 : I64 a) {acts : List Ac} {v : Value} {h0 : Hp} (hs : Rs acts v h0) (hl : acts.length ≤ 1099511627776) :
  Ct Tryz.prog 3 [.agg (List.toArray (LayV a b c e)), v] [h0] (fun r H' => r = .bool true ∧ H' = [h0]) := by
 obtain ⟨vp, vc, rfl⟩ := hs.len
 refine Ct.mk' Tryz.func3 rfl rfl rfl (fun g R => ?_)
 try simp only [List.cons_append]
 simp only [List.nil_append]
 by_cases hbig : 400 < acts.length
 ·repeat' (first | refine go ?_ | refine mv ?_ | refine asg ?_ | (refine I.bin ?_; refine cm rfl rfl ?_) | (refine I.cond ?_; first | refine cF ?_ | refine cP ?_) | (refine I.bi ?_; refine ln rfl (by assumption) ?_) | (refine I.un ?_; refine nt ?_) | refine bx rfl (fun _ => ?_) | (refine I.cl ?_; refine WX.callQ rfl able_ct rfl ?_) | fail)
  exact D.fin1 [h0] _ rfl rfl ⟨rfl, rfl⟩
 by_cases hok : OkL a b c e 0
 ·obtain ⟨rn, rfl⟩ : ∃ rn : Nat, b = (rn : Int) := ⟨b.toNat, by have := hok.h2; omega⟩
  obtain ⟨nn, rfl⟩ : ∃ nn : Nat, c = (nn : Int) := ⟨c.toNat, by have := hok.h3; omega⟩
  have hb := hok.h2
  have hc := hok.h3
  have hnew := mnewOk_ct hok
  have hnewd := dnewOk_ct hok
  repeat' (first | refine go ?_ | refine mv ?_ | refine asg ?_ | (refine I.bin ?_; refine cm rfl rfl ?_) | (refine I.cond ?_; first | refine cF ?_ | refine cN ?_) | (refine I.bi ?_; refine ln rfl (by assumption) ?_) | (refine I.un ?_; refine nt ?_) | refine bx rfl (fun _ => ?_) | (refine I.cl ?_; refine WX.callQ rfl able_ct rfl ?_) | (refine I.ld ?_; refine lAN (LayV a rn nn e) (LayV a rn nn e) rfl ?_) | fail)
  rename_i lb
  refine WX.call rfl hnew rfl ?_
  rintro _ _ ⟨bm, h1, rfl, rfl, hm⟩
  simp only [List.cons_append, List.nil_append]
  repeat' (first | refine go ?_ | refine mv ?_ | refine asg ?_ | refine ex ?_ | (refine I.ld ?_; refine lAN (LayV a rn nn e) (LayV a rn nn e) rfl ?_) | fail)
  refine WX.call rfl hnewd rfl ?_
  rintro _ _ ⟨bd, h2, rfl, rfl, hd⟩
  simp only [List.cons_append, List.nil_append]
  repeat' (first | refine go ?_ | refine mv ?_ | refine asg ?_ | (refine I.bin ?_; refine cm rfl rfl ?_) | (refine I.cond ?_; refine cF ?_) | refine ex ?_ | fail)
  have okN := newS_ok (dcs := a) (cl := e) (dc := 0) (rn := rn) (nn := nn) (by omega) (by omega) (by omega) (by omega)
  obtain ⟨s0, hs0⟩ : ∃ s0, newS a rn nn e 0 = s0 := ⟨_, rfl⟩
  have hup0 : s0.up = true := by rw [← hs0]; rfl
  have hrn0 : s0.rn = rn := by rw [← hs0]; rfl
  rw [hs0] at okN hm hd
  refine W.nilH ?_
  refine W.hp (H' := [[], h2, h1, LBk lb a rn nn e, h0, R]) rfl ?_
  refine W.loop (α := Nat × Value × Hp) (fun x => x.1 ≤ rn ∧ IsSl 38 (rowF x.1 fun r => (s0.ch r).cfg) x.2.1 x.2.2) (fun x => [(1, .slice vp acts.length vc), (2, .pointer (some ⟨lb, 0, none⟩)), (5, .pointer (some ⟨bm, 0, none⟩)), (7, .pointer (some ⟨bd, 0, none⟩)), (9, x.2.1), (10, .int .i64 (x.1 : Int))])
   (fun x => [x.2.2, h2, h1, LBk lb a rn nn e, h0, R]) (fun x => rn - x.1) (0, .slice none 0 0, []) ⟨Nat.zero_le _, IsSl.nil _⟩ (by repeat (first | exact Fsub.nil | refine Fsub.cons rfl ?_)) (Hsub.of_picks inferInstance) ?_
  rintro ⟨k, w, hw⟩ ⟨hk, hsw⟩
  simp only [] at hk hsw ⊢
  have hwl : (rowF k fun r => (s0.ch r).cfg).length = k := rowF_len
  by_cases hltk : k < rn
  ·have hcf := mconf_ct okN hm (k : Int)
   rw [conf_up hup0 (by omega)] at hcf
   repeat' (first | refine go ?_ | refine mv ?_ | (refine I.ld ?_; refine ld rfl ?_) | (refine I.fa ?_; refine fa ?_) | (refine I.bin ?_; refine cm rfl rfl ?_) | (refine I.cond ?_; refine cP ?_) | (refine I.cl ?_; refine WX.callQ rfl hcf rfl ?_) | fail)
   refine I.bs ?_
   refine WX.lit (ys := [(s0.ch k).cfg]) rfl rfl rfl rfl rfl rfl (by decide) rfl (fun v2 h7 hs7 => ?_)
   skip
   refine WX.app rfl rfl hsw hs7.rs rfl rfl (by decide) (by simp only [List.length_cons, List.length_nil]; omega) rfl (fun v3 h8 hs8 => ?_)
   rw [← rowF_succ (f := fun r => (s0.ch r).cfg)] at hs8
   repeat' (first | refine go ?_ | refine mv ?_ | refine asg ?_ | (refine I.bin ?_; refine ad ?_) | fail)
   exact D.round (k + 1, v3, h8) ⟨by simp only []; omega, hs8⟩ (by simp only []; omega) (by repeat (first | exact Fsub.nil | refine Fsub.cons rfl ?_)) (Hsub.of_picks inferInstance)
  obtain rfl : k = rn := by omega
  repeat' (first | refine go ?_ | refine mv ?_ | (refine I.ld ?_; refine ld rfl ?_) | refine asg ?_ | (refine I.fa ?_; refine fa ?_) | (refine I.bin ?_; refine cm rfl rfl ?_) | (refine I.cond ?_; refine cN ?_) | fail)
  refine W.loop (α := Nat × MS × Hp × Hp × Hp) (fun x => x.1 ≤ acts.length ∧ MsOk x.2.1 ∧ x.2.1.rn = k ∧ IsMs x.2.1 bm x.2.2.1 ∧ IsDs x.2.1 bd x.2.2.2.1 ∧ IsSl 38 (rowF k fun r => (x.2.1.ch r).cfg) w x.2.2.2.2) (fun x => [(1, .slice vp acts.length vc), (2, .pointer (some ⟨lb, 0, none⟩)), (5, .pointer (some ⟨bm, 0, none⟩)), (7, .pointer (some ⟨bd, 0, none⟩)), (9, w), (11, .int .i64 (x.1 : Int))])
   (fun x => [x.2.2.1, x.2.2.2.1, x.2.2.2.2, LBk lb a k nn e, h0, R]) (fun x => acts.length - x.1) (0, s0, h1, h2, hw) ⟨Nat.zero_le _, okN, hrn0, hm, hd, hsw⟩ (by repeat (first | exact Fsub.nil | refine Fsub.cons rfl ?_)) (Hsub.of_picks inferInstance) ?_
  rintro ⟨i, s, h3, h4, hw2⟩ ⟨hi, ok, hrn, hm1, hd1, hsw2⟩
  simp only [] at hi ok hrn hm1 hd1 hsw2 ⊢
  by_cases hlt : i < acts.length
  ·obtain ⟨x, hx⟩ : ∃ x, acts[i]? = some x := ⟨_, List.getElem?_eq_getElem hlt⟩
   have okA := actP_ok ok 0 x
   have near := actP_near ok 0 x
   have down := actP_down (s := s) 0 x
   have hrnA : (actP s 0 x).rn = k := by rw [(actP_same s 0 x).rn]; exact hrn
   have hact := act_ct ok hm1 hd1 0 x
   obtain ⟨s', hs'⟩ : ∃ s', actP s 0 x = s' := ⟨_, rfl⟩
   rw [hs'] at okA near down hrnA hact
   repeat' (first | refine go ?_ | refine mv ?_ | (refine I.bin ?_; refine cm rfl rfl ?_) | (refine I.cond ?_; refine cP ?_) | (refine I.bi ?_; refine ln rfl (by assumption) ?_) | (refine I.ix ?_; refine ix rfl rfl ?_) | (refine I.ld ?_; refine WX.loadEW rfl hs hx rfl rfl ?_) | fail)
   refine WX.call rfl hact rfl ?_
   rintro _ _ ⟨rfl, h5, h6, rfl, hm2, hd2⟩
   have hupc := mup_ct hm2
   simp only [List.cons_append, List.nil_append]
   repeat' (first | refine go ?_ | refine asg ?_ | fail)
   refine W.loop (α := Nat × Hp) (fun y => y.1 ≤ k ∧ IsSl 38 (rowF k (mixC s s' y.1)) w y.2 ∧ (s'.up = false → s'.ch = s.ch)) (fun y => [(1, .slice vp acts.length vc), (2, .pointer (some ⟨lb, 0, none⟩)), (5, .pointer (some ⟨bm, 0, none⟩)), (7, .pointer (some ⟨bd, 0, none⟩)), (9, w), (11, .int .i64 (i : Int)), (12, .int .i64 (y.1 : Int))])
    (fun y => [h5, h6, y.2, LBk lb a k nn e, h0, R]) (fun y => k - y.1) (0, hw2) ⟨Nat.zero_le _, by rw [mixC_0]; exact hsw2, down⟩ (by repeat (first | exact Fsub.nil | refine Fsub.cons rfl ?_)) (Hsub.of_picks inferInstance) ?_
   rintro ⟨q, hw3⟩ ⟨hq, hsw3, -⟩
   simp only [] at hq hsw3 ⊢
   have hql : (rowF k (mixC s s' q)).length = k := rowF_len
   by_cases hlq : q < k
   ·cases hup : s'.up with
    | false =>
     rw [hup] at hupc
     have hsn : IsSl 38 (rowF k fun r => (s'.ch r).cfg) w hw3 := by
      have e : rowF k (mixC s s' q) = rowF k fun r => (s'.ch r).cfg := rowF_congr fun i _ => by unfold mixC; rw [down hup]; split <;> rfl
      rw [← e]; exact hsw3
     repeat' (first | refine go ?_ | refine mv ?_ | (refine I.ld ?_; refine ld rfl ?_) | refine asg ?_ | (refine I.gd ?_; first | refine gy ?_ | refine gT ?_) | (refine I.fa ?_; refine fa ?_) | (refine I.bin ?_; first | refine cm rfl rfl ?_ | refine ad ?_) | (refine I.pk ?_; refine pT ?_) | (refine I.cond ?_; refine cF ?_) | (refine I.cl ?_; refine WX.callQ rfl hupc rfl ?_) | fail)
     exact D.round (i + 1, s', h5, h6, hw3) ⟨by simp only []; omega, okA, hrnA, hm2, hd2, hsn⟩ (by simp only []; omega) (by repeat (first | exact Fsub.nil | refine Fsub.cons rfl ?_)) (Hsub.of_picks inferInstance)
    | true =>
     rw [hup] at hupc
     have hcf := mconf_ct okA hm2 (q : Int)
     rw [conf_up hup (by omega)] at hcf
     have okc := okA.ch q (by omega)
     have okl := ok.ch q (by omega)
     have hnear := near q
     have hget : (rowF k (mixC s s' q))[q]? = some (s.ch q).cfg := by rw [rowF_get hlq, mixC_at]
     have hset := mixC_set s s' k q
     generalize hc1 : s'.ch q = c1 at *
     generalize hc2 : s.ch q = c2 at *
     have hr3 := hsw3.rs
     have hrt := right_ct okc
     have hn1 := nodes_ct okc
     have hn2 := nodes_ct okl
     have hNN : 1 ≤ c1.cfg.n := by show (1 : Int) ≤ (c1.ms.length : Int); have := okc.l1; omega
     have hE : c1.cfg.ep = c1.ep := rfl
     have hE2 : c2.cfg.ep = c2.ep := rfl
     have hbnd : c2.ep ≤ 1099511627776 := okl.e2
     have hbnd1 : 1 ≤ c2.ep := okl.e1
     have l1 : (c1.all.map (·.nd)).length = c1.all.length := List.length_map ..
     have l2 : (c2.all.map (·.nd)).length = c2.all.length := List.length_map ..
     have hle1 : c1.all.length ≤ 4 := by have := okc.l4; unfold Ch.all; rw [List.length_append]; exact this
     have hle2 : c2.all.length ≤ 4 := by have := okl.l4; unfold Ch.all; rw [List.length_append]; exact this
     have hlen : c1.all.length ≤ c2.all.length + 1 ∧ c2.all.length ≤ c1.all.length + 1 := by
      rcases hnear with h | ⟨_, h, h'⟩
      ·rw [h]; omega
      ·exact ⟨h, h'⟩
     have hepn : c1.cfg.ep = c2.cfg.ep ∨ c1.cfg.ep = c2.cfg.ep + 1 := by
      rcases hnear with h | ⟨h, _⟩
      ·rw [h]; exact .inl rfl
      ·exact .inr h
     have hsame : c1.cfg.ep = c2.cfg.ep → c1.cfg = c2.cfg := fun h => by
      rcases hnear with h' | ⟨h', _⟩
      ·rw [h']
      ·have : c1.ep = c2.ep := h
       omega
     repeat' (first | refine go ?_ | refine mv ?_ | (refine I.ld ?_; refine ld rfl ?_) | (refine I.gd ?_; first | refine gy ?_ | refine gT ?_) | (refine I.fa ?_; refine fa ?_) | (refine I.bin ?_; refine cm rfl rfl ?_) | (refine I.pk ?_; refine pT ?_) | (refine I.cond ?_; refine cT ?_) | refine al (fun _ => ?_) | (refine I.cl ?_; first | refine WX.callQ rfl hupc rfl ?_ | refine WX.callQ rfl hcf rfl ?_) | (refine I.st ?_; refine sGW Cfg.z.enc c1.cfg.enc rfl rfl ?_) | fail)
     rename_i cb
     refine W.hp (H' := [CfBk cb c1.cfg, h5, h6, hw3, LBk lb a k nn e, h0, R]) rfl ?_
     by_cases heq : c1.cfg.ep = c2.cfg.ep
     ·have hge : (rowF k (mixC s s' q))[q]? = some c1.cfg := by rw [hget, hsame heq]
      have t8 : cellsEq kCfg c1.cfg.enc c1.cfg.enc = some true := cells_self rfl
      clear hget
      rw [← hsame heq] at hn2
      skip
      refine W.quiet Tryz.mix (by kernel_rfl) ?_
      repeat' (first | refine go ?_ | refine mv ?_ | (refine I.ld ?_; first | refine ld rfl ?_ | refine lE rfl (by assumption) ?_) | (refine I.gd ?_; first | refine gy ?_ | refine gT ?_ | refine gF ?_) | (refine I.fa ?_; first | refine fa ?_ | refine fE rfl ?_) | (refine I.bin ?_; first | refine cm rfl rfl ?_ | refine ad ?_) | (refine I.pk ?_; first | refine pT ?_ | refine pF ?_) | (refine I.cond ?_; refine cF ?_) | (refine I.ix ?_; refine ix rfl rfl ?_) | (refine I.un ?_; refine nt ?_) | (refine I.cl ?_; refine WX.callQ rfl hrt rfl ?_) | (refine I.ld ?_; first | refine WX.loadEW rfl hr3 hge rfl rfl ?_ | refine lAN c1.cfg.enc c1.cfg.enc rfl ?_) | (refine I.bin ?_; refine WX.neqA rfl rfl t8 rfl ?_) | fail)
      refine W.mixN 8 [true, false, true, true, true, true, true, false, true, true] [hw3, CfBk cb c1.cfg] Tryz.mix (by kernel_rfl) ?_
      repeat' (first | refine go ?_ | refine mU ?_ | refine mA ?_ | (refine I.ld ?_; refine lAN c1.cfg.enc c1.cfg.enc rfl ?_) | fail)
      refine WX.call rfl hn1 rfl ?_
      rintro _ _ ⟨h7, hs7, rfl⟩
      have hr7 := hs7.rs
      obtain ⟨np, nc, rfl⟩ := hr7.len
      simp only [List.cons_append, List.nil_append]
      repeat' (first | refine go ?_ | refine mv ?_ | refine mU ?_ | refine mA ?_ | (refine I.bi ?_; refine ln rfl (by assumption) ?_) | (refine I.ix ?_; refine ix rfl rfl ?_) | (refine I.ld ?_; refine WX.loadEW rfl hr3 hge rfl rfl ?_) | fail)
      refine WX.call rfl hn2 rfl ?_
      rintro _ _ ⟨h8, hs8, rfl⟩
      have hr8 := hs8.rs
      obtain ⟨np2, nc2, rfl⟩ := hr8.len
      simp only [List.cons_append, List.nil_append]
      repeat' (first | refine go ?_ | refine mv ?_ | (refine I.ld ?_; refine ld rfl ?_) | refine asg ?_ | (refine I.gd ?_; first | refine gy ?_ | refine gF ?_) | (refine I.fa ?_; refine fa ?_) | (refine I.bin ?_; first | refine cm rfl rfl ?_ | refine ad ?_) | (refine I.pk ?_; refine pF ?_) | (refine I.cond ?_; refine cN ?_) | refine mN ?_ | refine mU ?_ | (refine I.bi ?_; refine ln rfl (by assumption) ?_) | (refine I.ix ?_; refine ix rfl rfl ?_) | (refine I.ld ?_; refine lAN c1.cfg.enc c1.cfg.enc rfl ?_) | fail)
      refine I.st ?_
      refine WX.storeE (y' := c1.cfg) (vs := c1.cfg.enc) rfl rfl rfl hsw3 hge rfl rfl rfl (setAt_whole rfl) rfl (fun hv' hsv => ?_)
      rw [hset] at hsv
      repeat' (first | refine go ?_ | refine mv ?_ | refine asg ?_ | (refine I.bin ?_; refine ad ?_) | fail)
      exact D.round (q + 1, hv') ⟨by simp only []; omega, hsv, fun h => by cases h⟩ (by simp only []; omega) (by repeat (first | exact Fsub.nil | refine Fsub.cons rfl ?_)) (Hsub.of_picks inferInstance)
     ·have hge := hget
      clear hget
      skip
      refine W.quiet Tryz.mix (by kernel_rfl) ?_
      repeat' (first | refine go ?_ | refine mv ?_ | (refine I.ld ?_; first | refine ld rfl ?_ | refine lE rfl (by assumption) ?_) | (refine I.gd ?_; first | refine gy ?_ | refine gn ?_ | refine gF ?_) | (refine I.fa ?_; first | refine fa ?_ | refine fE rfl ?_) | (refine I.bin ?_; first | refine cm rfl rfl ?_ | refine ad ?_) | (refine I.pk ?_; refine pF ?_) | (refine I.cond ?_; refine cF ?_) | (refine I.ix ?_; refine ix rfl rfl ?_) | (refine I.un ?_; refine nt ?_) | (refine I.cl ?_; refine WX.callQ rfl hrt rfl ?_) | (refine I.ld ?_; refine lAN c1.cfg.enc c1.cfg.enc rfl ?_) | fail)
      refine W.mixN 8 [true, false, true, true, true, true, true, false, true, true] [hw3, CfBk cb c1.cfg] Tryz.mix (by kernel_rfl) ?_
      repeat' (first | refine go ?_ | refine mU ?_ | refine mA ?_ | (refine I.ld ?_; refine lAN c1.cfg.enc c1.cfg.enc rfl ?_) | fail)
      refine WX.call rfl hn1 rfl ?_
      rintro _ _ ⟨h7, hs7, rfl⟩
      have hr7 := hs7.rs
      obtain ⟨np, nc, rfl⟩ := hr7.len
      simp only [List.cons_append, List.nil_append]
      repeat' (first | refine go ?_ | refine mv ?_ | refine mU ?_ | refine mA ?_ | (refine I.bi ?_; refine ln rfl (by assumption) ?_) | (refine I.ix ?_; refine ix rfl rfl ?_) | (refine I.ld ?_; refine WX.loadEW rfl hr3 hge rfl rfl ?_) | fail)
      refine WX.call rfl hn2 rfl ?_
      rintro _ _ ⟨h8, hs8, rfl⟩
      have hr8 := hs8.rs
      obtain ⟨np2, nc2, rfl⟩ := hr8.len
      simp only [List.cons_append, List.nil_append]
      repeat' (first | refine go ?_ | refine mv ?_ | (refine I.ld ?_; refine ld rfl ?_) | refine asg ?_ | (refine I.gd ?_; first | refine gy ?_ | refine gF ?_) | (refine I.fa ?_; refine fa ?_) | (refine I.bin ?_; first | refine cm rfl rfl ?_ | refine ad ?_) | (refine I.pk ?_; refine pF ?_) | (refine I.cond ?_; refine cN ?_) | refine mN ?_ | refine mU ?_ | (refine I.bi ?_; refine ln rfl (by assumption) ?_) | (refine I.ix ?_; refine ix rfl rfl ?_) | (refine I.ld ?_; refine lAN c1.cfg.enc c1.cfg.enc rfl ?_) | fail)
      refine I.st ?_
      refine WX.storeE (y' := c1.cfg) (vs := c1.cfg.enc) rfl rfl rfl hsw3 hge rfl rfl rfl (setAt_whole rfl) rfl (fun hv' hsv => ?_)
      rw [hset] at hsv
      repeat' (first | refine go ?_ | refine mv ?_ | refine asg ?_ | (refine I.bin ?_; refine ad ?_) | fail)
      exact D.round (q + 1, hv') ⟨by simp only []; omega, hsv, fun h => by cases h⟩ (by simp only []; omega) (by repeat (first | exact Fsub.nil | refine Fsub.cons rfl ?_)) (Hsub.of_picks inferInstance)
   ·obtain rfl : q = k := by omega
    rw [mixC_all] at hsw3
    repeat' (first | refine go ?_ | refine mv ?_ | (refine I.ld ?_; refine ld rfl ?_) | refine asg ?_ | (refine I.gd ?_; first | refine gn ?_ | refine gF ?_) | (refine I.fa ?_; refine fa ?_) | (refine I.bin ?_; first | refine cm rfl rfl ?_ | refine ad ?_) | (refine I.pk ?_; refine pF ?_) | (refine I.cond ?_; refine cF ?_) | fail)
    exact D.round (i + 1, s', h5, h6, hw3) ⟨by simp only []; omega, okA, hrnA, hm2, hd2, hsw3⟩ (by simp only []; omega) (by repeat (first | exact Fsub.nil | refine Fsub.cons rfl ?_)) (Hsub.of_picks inferInstance)
  ·obtain rfl : i = acts.length := by omega
   repeat' (first | refine go ?_ | refine mv ?_ | refine asg ?_ | (refine I.bin ?_; refine cm rfl rfl ?_) | (refine I.cond ?_; refine cN ?_) | (refine I.bi ?_; refine ln rfl (by assumption) ?_) | fail)
   exact D.fin1 [h0] _ rfl rfl ⟨rfl, rfl⟩
 ·have hbad := mnewBad_ct i1 hok
  have hbadd := dnewBad_ct hok
  repeat' (first | refine go ?_ | refine mv ?_ | refine asg ?_ | (refine I.bin ?_; first | refine cm rfl rfl ?_ | refine np rfl rfl ?_) | (refine I.cond ?_; first | refine cT ?_ | refine cF ?_ | refine cN ?_) | (refine I.bi ?_; refine ln rfl (by assumption) ?_) | refine ex ?_ | (refine I.un ?_; refine nt ?_) | refine bx rfl (fun _ => ?_) | (refine I.cl ?_; first | refine WX.callQ rfl able_ct rfl ?_ | refine WX.callQ rfl hbad rfl ?_ | refine WX.callQ rfl hbadd rfl ?_) | (refine I.ld ?_; refine lAN (LayV a b c e) (LayV a b c e) rfl ?_) | fail)
  exact D.fin1 [h0] _ rfl rfl ⟨rfl, rfl⟩
end Go.Proofs.YtfcefidmdijjkaaGreat
