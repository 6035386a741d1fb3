/-
  Texts of one road, one behind the other.
-/
import Derived.Test.YtfcefidmdijjkaaGreatQMPg
import Derived.Test.YtfcefidmdijjkaaGreatQMPe
import Derived.Test.YtfcefidmdijjkaaGreatQMPf
import Derived.Test.YtfcefidmdijjkaaGreatQMPi
import Derived.Test.YtfcefidmdijjkaaGreatQMPl
set_option linter.unusedVariables false
set_option linter.unusedSimpArgs false
namespace Go.Proofs.YtfcefidmdijjkaaGreat
open Go Go.Sl
theorem tmodj_lt {x : Int} {n : Int} (h : 0 < n) : -n < x.tmod n ∧ x.tmod n < n :=
 ⟨by have := Int.lt_tmod_of_pos x h; omega, Int.tmod_lt_of_pos x h⟩
def helloJ (r n : Nat) (ep : Int) : Msg := { Msg.z with kind := 10, fr := ⟨1, 0, (r : Int), (n : Int)⟩, ep := ep }
def caughtJ (r n : Nat) (ep : Int) : Msg := { Msg.z with kind := 11, fr := ⟨1, 0, (r : Int), (n : Int)⟩, ep := ep }
theorem nodeB_of {s : MS} (hup : s.up = true) (hdc : s.dc = 0) {r n : Nat} (hr : r < s.rn) (hn : n < s.nn) : nodeB s ⟨1, 0, (r : Int), (n : Int)⟩ = true :=
 decide_eq_true ⟨hup, rfl, hdc.symm, ⟨Int.natCast_nonneg _, by show ((r : Nat) : Int) < s.rn; omega⟩, ⟨Int.natCast_nonneg _, by show ((n : Nat) : Int) < s.nn; omega⟩⟩
theorem handle_hello {s : MS} (hup : s.up = true) (hdc : s.dc = 0) {r n : Nat} (hr : r < s.rn) (hn : n < s.nn) (ep : Int) : handleS s (helloJ r n ep) = helloS s r (n : Int) ep := by
 unfold handleS
 rw [if_neg (by rw [hup]; decide), if_neg (show ¬ (helloJ r n ep).kind = 1 by show ¬ (10 : Int) = 1; decide), if_neg (by rw [show (helloJ r n ep).fr = ⟨1, 0, (r : Int), (n : Int)⟩ from rfl, nodeB_of hup hdc hr hn]; decide), if_pos (show (helloJ r n ep).kind = 10 from rfl)]
 rfl
theorem handle_caught {s : MS} (hup : s.up = true) (hdc : s.dc = 0) {r n : Nat} (hr : r < s.rn) (hn : n < s.nn) (ep : Int) : handleS s (caughtJ r n ep) = caughtS s r ep := by
 unfold handleS
 rw [if_neg (by rw [hup]; decide), if_neg (show ¬ (caughtJ r n ep).kind = 1 by show ¬ (11 : Int) = 1; decide), if_neg (by rw [show (caughtJ r n ep).fr = ⟨1, 0, (r : Int), (n : Int)⟩ from rfl, nodeB_of hup hdc hr hn]; decide), if_neg (show ¬ (caughtJ r n ep).kind = 10 by show ¬ (11 : Int) = 10; decide), if_pos (show (caughtJ r n ep).kind = 11 from rfl)]
 rfl
theorem lay_room {s : MS} (h : roomB s.lg 1 = true) (r : Nat) (c : Ch) : (layS s r c).1.ch r = c ∧ (layS s r c).2.length = s.nn ∧ (layS s r c).1.wt = s.wt := by
 unfold layS
 simp only [h, if_true]
 exact ⟨updF_same, tells_len, trivial⟩
theorem heard_zero {s : MS} (ok : MsOk s) {r n : Nat} (hn : n < s.nn) : (heard1 (s.wt r) (n : Int)).getD n 0 = 0 := by
 have hl := ok.wl r
 unfold heard1
 rw [if_pos (by omega), List.getD_eq_getElem?_getD, show ((n : Nat) : Int).toNat = n from rfl, List.getElem?_set_self (by omega)]
 rfl
theorem sil_heard {s t : MS} (ok : MsOk s) {r n : Nat} (hn : n < s.nn) (h : t.wt r = heard1 (s.wt r) (n : Int)) : silS t (r : Int) (n : Int) = 0 := by
 unfold silS
 split
 ·rw [show ((r : Nat) : Int).toNat = r from rfl, show ((n : Nat) : Int).toNat = n from rfl, h]
  split
  ·exact heard_zero ok hn
  ·rfl
 ·rfl
set_option maxRecDepth 10000 in
set_option maxHeartbeats 1000000 in
theorem mjoins_ct {a b c e : Int} (i1 : I64 a) {acts : List Ac} {v : Value} {h0 : Hp} (hs : Rs acts v h0) (hl : acts.length ≤ 1099511627776) (ra na : Int) :
  Ct Tryz.prog 6 [.agg (List.toArray (LayV a b c e)), v, .int .i64 ra, .int .i64 na] [h0] (fun r H' => r = .bool true ∧ H' = [h0]) := by
 obtain ⟨vp, vc, rfl⟩ := hs.len
 refine Ct.mk' Tryz.func6 rfl rfl rfl (fun g R => ?_)
 try simp only [List.cons_append]
 simp only [List.nil_append]
 by_cases hbig : 400 < acts.length
 ·repeat' (first | refine go ?_ | refine mv ?_ | refine asg ?_ | (refine I.bin ?_; refine cm rfl rfl ?_) | (refine I.cond ?_; first | refine cF ?_ | refine cP ?_) | (refine I.bi ?_; refine ln rfl (by assumption) ?_) | (refine I.un ?_; refine nt ?_) | refine bx rfl (fun _ => ?_) | (refine I.cl ?_; refine WX.callQ rfl able_ct rfl ?_) | fail)
  exact D.fin1 [h0] _ rfl rfl ⟨rfl, rfl⟩
 by_cases hok : OkL a b c e 0
 ·obtain ⟨rn, rfl⟩ : ∃ rn : Nat, b = (rn : Int) := ⟨b.toNat, by have := hok.h2; omega⟩
  obtain ⟨nn, rfl⟩ : ∃ nn : Nat, c = (nn : Int) := ⟨c.toNat, by have := hok.h3; omega⟩
  have hb := hok.h2
  have hc := hok.h3
  have hnew := mnewOk_ct hok
  have hnewd := dnewOk_ct hok
  repeat' (first | refine go ?_ | refine mv ?_ | refine asg ?_ | (refine I.bin ?_; refine cm rfl rfl ?_) | (refine I.cond ?_; first | refine cF ?_ | refine cN ?_) | (refine I.bi ?_; refine ln rfl (by assumption) ?_) | (refine I.un ?_; refine nt ?_) | refine bx rfl (fun _ => ?_) | (refine I.cl ?_; refine WX.callQ rfl able_ct rfl ?_) | (refine I.ld ?_; refine lAN (LayV a rn nn e) (LayV a rn nn e) rfl ?_) | fail)
  rename_i lb
  refine WX.call rfl hnew rfl ?_
  rintro _ _ ⟨bm, h1, rfl, rfl, hm⟩
  simp only [List.cons_append, List.nil_append]
  repeat' (first | refine go ?_ | refine mv ?_ | refine asg ?_ | refine ex ?_ | (refine I.ld ?_; refine lAN (LayV a rn nn e) (LayV a rn nn e) rfl ?_) | fail)
  refine WX.call rfl hnewd rfl ?_
  rintro _ _ ⟨bd, h2, rfl, rfl, hd⟩
  simp only [List.cons_append, List.nil_append]
  repeat' (first | refine go ?_ | refine mv ?_ | refine asg ?_ | (refine I.bin ?_; refine cm rfl rfl ?_) | (refine I.cond ?_; refine cF ?_) | refine ex ?_ | fail)
  refine W.hp (H' := [h2, h1, LBk lb a rn nn e, h0, R]) rfl ?_
  refine W.loop (α := Nat × MS × Hp × Hp) (fun x => x.1 ≤ acts.length ∧ MsOk x.2.1 ∧ SameL (newS a rn nn e 0) x.2.1 ∧ Tidy x.2.1 x.1 ∧ IsMs x.2.1 bm x.2.2.1 ∧ IsDs x.2.1 bd x.2.2.2) (fun x => [(1, .slice vp acts.length vc), (2, .int .i64 ra), (3, .int .i64 na), (4, .pointer (some ⟨lb, 0, none⟩)), (9, .pointer (some ⟨bm, 0, none⟩)), (11, .pointer (some ⟨bd, 0, none⟩)), (13, .int .i64 (x.1 : Int))])
   (fun x => [x.2.2.1, x.2.2.2, LBk lb a rn nn e, h0, R]) (fun x => acts.length - x.1) (0, newS a rn nn e 0, h1, h2) ⟨Nat.zero_le _, newS_ok (by omega) (by omega) (by omega) (by omega), ⟨rfl, rfl, rfl, rfl, rfl⟩, tidy_new (by omega) (by omega) (by omega), hm, hd⟩ (by repeat (first | exact Fsub.nil | refine Fsub.cons rfl ?_)) (Hsub.of_picks inferInstance) ?_
  rintro ⟨i, s, h3, h4⟩ ⟨hi, ok, hsl, td, hm1, hd1⟩
  simp only [] at hi ok hsl td hm1 hd1 ⊢
  by_cases hlt : i < acts.length
  ·obtain ⟨x, hx⟩ : ∃ x, acts[i]? = some x := ⟨_, List.getElem?_eq_getElem hlt⟩
   have okA := actP_ok ok 0 x
   have slA := hsl.trans (actP_same s 0 x)
   have tdA := td.act ok 0 x
   repeat' (first | refine go ?_ | refine mv ?_ | (refine I.bin ?_; refine cm rfl rfl ?_) | (refine I.cond ?_; refine cP ?_) | (refine I.bi ?_; refine ln rfl (by assumption) ?_) | (refine I.ix ?_; refine ix rfl rfl ?_) | (refine I.ld ?_; refine WX.loadEW rfl hs hx rfl rfl ?_) | fail)
   refine WX.call rfl (act_ct ok hm1 hd1 0 x) rfl ?_
   rintro _ _ ⟨rfl, h5, h6, rfl, hm2, hd2⟩
   simp only [List.cons_append, List.nil_append]
   repeat' (first | refine go ?_ | refine mv ?_ | refine asg ?_ | (refine I.bin ?_; refine ad ?_) | fail)
   exact D.round (i + 1, actP s 0 x, h5, h6) ⟨by simp only []; omega, okA, slA, tdA, hm2, hd2⟩ (by simp only []; omega) (by repeat (first | exact Fsub.nil | refine Fsub.cons rfl ?_)) (Hsub.of_picks inferInstance)
  ·obtain rfl : i = acts.length := by omega
   have ok1 := ok.start
   obtain ⟨s1, hs1⟩ : ∃ s1, startS s = s1 := ⟨_, rfl⟩
   have hsc := mstartS_ct ok hm1
   have hup1 := start_up s
   have hsl1 := hsl.trans (start_same s)
   have td1 := td.start
   rw [hs1] at ok1 hsc hup1 hsl1 td1
   clear hs1 hm1 hd1 ok hsl td
   have hrn1 : s1.rn = rn := hsl1.rn
   have hnn1 : s1.nn = nn := hsl1.nn
   have hdc1 : s1.dc = 0 := hsl1.dc
   repeat' (first | refine go ?_ | refine mv ?_ | (refine I.bin ?_; refine cm rfl rfl ?_) | (refine I.cond ?_; refine cN ?_) | (refine I.bi ?_; refine ln rfl (by assumption) ?_) | fail)
   refine WX.call rfl hsc rfl ?_
   rintro _ _ ⟨rfl, h5, rfl, hm2⟩
   simp only [List.cons_append, List.nil_append]
   repeat' (first | refine go ?_ | fail)
   refine W.hp (H' := [h5, h4, LBk lb a rn nn e, h0, R]) rfl ?_
   obtain ⟨t, ht⟩ : ∃ t, ra.tmod (rn : Int) = t := ⟨_, rfl⟩
   have ht2 := tmodj_lt (x := ra) (n := (rn : Int)) (by omega)
   rw [ht] at ht2
   obtain ⟨q, hq⟩ : ∃ q : Nat, (t + (rn : Int)).tmod (rn : Int) = (q : Int) := ⟨((t + (rn : Int)).tmod (rn : Int)).toNat, by rw [Int.toNat_of_nonneg (Int.tmod_nonneg _ (by omega))]⟩
   have hq2 := tmodj_lt (x := t + (rn : Int)) (n := (rn : Int)) (by omega)
   rw [hq] at hq2
   obtain ⟨t', ht'⟩ : ∃ t', na.tmod (nn : Int) = t' := ⟨_, rfl⟩
   have ht2' := tmodj_lt (x := na) (n := (nn : Int)) (by omega)
   rw [ht'] at ht2'
   obtain ⟨p, hp⟩ : ∃ p : Nat, (t' + (nn : Int)).tmod (nn : Int) = (p : Int) := ⟨((t' + (nn : Int)).tmod (nn : Int)).toNat, by rw [Int.toNat_of_nonneg (Int.tmod_nonneg _ (by omega))]⟩
   have hp2 := tmodj_lt (x := t' + (nn : Int)) (n := (nn : Int)) (by omega)
   rw [hp] at hp2
   refine W.quiet Tryz.mix (by kernel_rfl) ?_
   repeat' (first | refine mv ?_ | (refine I.ld ?_; refine ld rfl ?_) | (refine I.fa ?_; refine fa ?_) | fail)
   refine I.bin ?_
   refine WX.rem rfl rfl rfl (by omega) ?_
   rw [ht]
   repeat' (first | (refine I.ld ?_; refine ld rfl ?_) | (refine I.fa ?_; refine fa ?_) | (refine I.bin ?_; refine ad ?_) | fail)
   refine I.bin ?_
   refine WX.rem rfl rfl rfl (by omega) ?_
   rw [hq]
   repeat' (first | refine mv ?_ | (refine I.ld ?_; refine ld rfl ?_) | (refine I.fa ?_; refine fa ?_) | fail)
   refine I.bin ?_
   refine WX.rem rfl rfl rfl (by omega) ?_
   rw [ht']
   repeat' (first | (refine I.ld ?_; refine ld rfl ?_) | (refine I.fa ?_; refine fa ?_) | (refine I.bin ?_; refine ad ?_) | fail)
   refine I.bin ?_
   refine WX.rem rfl rfl rfl (by omega) ?_
   rw [hp]
   have hqr : q < rn := by omega
   have hpn : p < nn := by omega
   have hcf := mconf_ct ok1 hm2 (q : Int)
   rw [conf_up hup1 (by omega)] at hcf
   have okc := ok1.ch q (by omega)
   obtain ⟨c0, hc0⟩ : ∃ c0, s1.ch q = c0 := ⟨_, rfl⟩
   rw [hc0] at hcf okc
   have hep0 : c0.ep ≤ 1 + (acts.length : Int) := by rw [← hc0]; exact td1.ep q (by omega)
   have hE0 : c0.cfg.ep = c0.ep := rfl
   have hepl : 1 ≤ c0.cfg.ep := okc.e1
   have hJ0 : c0.cfg.jo = c0.ln.isSome := rfl
   have hsi := since_ct okc (p : Int)
   have hroom := room_many ok1.lg td1.seg (by have := td1.few; omega)
   have hadd := addL_none okc (n := (p : Int)) (by omega) (by omega) (by omega)
   repeat' (first | refine go ?_ | refine mv ?_ | (refine I.ld ?_; refine ld rfl ?_) | refine asg ?_ | (refine I.fa ?_; refine fa ?_) | (refine I.bin ?_; refine cm rfl rfl ?_) | refine al (fun _ => ?_) | (refine I.cl ?_; first | refine WX.callQ rfl hcf rfl ?_ | refine WX.callQ rfl hsi rfl ?_) | (refine I.st ?_; first | refine sGW Cfg.z.enc c0.cfg.enc rfl rfl ?_ | refine sGW Ad4.z.enc (Ad4.enc ⟨1, 0, (q : Int), (p : Int)⟩) rfl rfl ?_) | (refine I.bd ?_; refine bdN (t := 42) (Ad4.enc ⟨1, 0, (q : Int), (p : Int)⟩) ?_ (hf' := by exact rfl)) | (refine I.ld ?_; first | refine lAN c0.cfg.enc c0.cfg.enc rfl ?_ | refine lAN (Ad4.enc ⟨1, 0, (q : Int), (p : Int)⟩) (Ad4.enc ⟨1, 0, (q : Int), (p : Int)⟩) rfl ?_) | fail)
   rename_i cb fb
   refine WX.hp (H' := [[(fb, .cells (List.toArray (Ad4.enc ⟨1, 0, (q : Int), (p : Int)⟩)) 42 (0, 0))], CfBk cb c0.cfg, h5, h4, LBk lb a rn nn e, h0, R]) rfl ?_
   have hhc := mhandle_ct ok1 hm2 (helloJ q p c0.cfg.ep)
   rw [handle_hello hup1 hdc1 (by omega) (by omega)] at hhc
   repeat' (first | (refine I.bd ?_; refine bdN (helloJ q p c0.cfg.ep).enc ?_) | fail)
   cases hal : addL c0 (p : Int) with
   | none =>
    have hh : helloS s1 q (p : Int) c0.cfg.ep = (s1.heard q (p : Int), []) := by
     unfold helloS
     rw [hc0, hal]
     simp only []
     rw [if_neg (by rw [hE0]; omega)]
    rw [hh] at hhc
    have hor := hadd.1 hal
    have ok2 := ok1.heard q (p : Int)
    have hsz := sil_heard (t := s1.heard q (p : Int)) ok1 (r := q) (n := p) (by omega) (by show updF _ q _ q = _; exact updF_same)
    have hcf2 : confS (s1.heard q (p : Int)) (q : Int) = c0.cfg := by rw [conf_up (s := s1.heard q (p : Int)) hup1 (by show q < s1.rn; omega)]; show (s1.ch q).cfg = _; rw [hc0]
    refine WX.call rfl hhc rfl ?_
    rintro _ _ ⟨h6, ho, rfl, hm3, hs3⟩
    have hr3 := hs3.rs
    obtain ⟨op, oc, rfl⟩ := hr3.len
    have hcq := mconf_ct ok2 hm3 (q : Int)
    rw [hcf2] at hcq
    have hsq := msil_ct ok2 hm3 (q : Int) (p : Int)
    rw [hsz] at hsq
    have t8 : cellsEq kCfg c0.cfg.enc c0.cfg.enc = some true := cells_self rfl
    simp only [List.cons_append, List.nil_append]
    by_cases hmem : 0 < sinceC c0 (p : Int)
    ·repeat' (first | refine go ?_ | refine mv ?_ | refine asg ?_ | (refine I.gd ?_; first | refine gy ?_ | refine gn ?_ | refine gT ?_) | (refine I.bin ?_; refine cm rfl rfl ?_) | (refine I.pk ?_; refine pT ?_) | (refine I.cond ?_; first | refine cT ?_ | refine cF ?_) | (refine I.bi ?_; refine ln rfl (by assumption) ?_) | refine al (fun _ => ?_) | (refine I.cl ?_; first | refine WX.callQ rfl hcq rfl ?_ | refine WX.callQ rfl hsq rfl ?_) | (refine I.st ?_; refine sGW Cfg.z.enc c0.cfg.enc rfl rfl ?_) | (refine I.ld ?_; refine lAN c0.cfg.enc c0.cfg.enc rfl ?_) | (refine I.bin ?_; refine WX.eqlA rfl rfl t8 rfl ?_) | fail)
     exact D.fin1 [h0] _ rfl rfl ⟨rfl, rfl⟩
    ·have hjo : c0.cfg.jo = true := hor.resolve_left hmem
     repeat' (first | refine go ?_ | refine mv ?_ | (refine I.ld ?_; refine ld rfl ?_) | refine asg ?_ | (refine I.gd ?_; first | refine gy ?_ | refine gF ?_) | (refine I.fa ?_; refine fa ?_) | (refine I.bin ?_; refine cm rfl rfl ?_) | (refine I.pk ?_; refine pF ?_) | (refine I.cond ?_; refine cF ?_) | refine al (fun _ => ?_) | (refine I.cl ?_; first | refine WX.callQ rfl hcq rfl ?_ | refine WX.callQ rfl hsq rfl ?_) | (refine I.st ?_; refine sGW Cfg.z.enc c0.cfg.enc rfl rfl ?_) | fail)
     rw [hjo]
     repeat' (first | refine go ?_ | refine mv ?_ | refine asg ?_ | (refine I.gd ?_; refine gy ?_) | (refine I.bin ?_; refine cm rfl rfl ?_) | (refine I.pk ?_; refine pT ?_) | (refine I.cond ?_; refine cT ?_) | (refine I.bi ?_; refine ln rfl (by assumption) ?_) | (refine I.ld ?_; refine lAN c0.cfg.enc c0.cfg.enc rfl ?_) | (refine I.bin ?_; refine WX.eqlA rfl rfl t8 rfl ?_) | fail)
     exact D.fin1 [h0] _ rfl rfl ⟨rfl, rfl⟩
   | some c1 =>
    have hnot : ¬ (0 < sinceC c0 (p : Int) ∨ c0.ln.isSome = true) := fun h => by rw [hadd.2 h] at hal; cases hal
    simp only [not_or] at hnot
    obtain ⟨hmem, hjo'⟩ := hnot
    have hjo : c0.cfg.jo = false := by rw [hJ0]; simpa using hjo'
    have ok1c := okc.addL hal
    have hc1e : c1 = ⟨c0.ep + 1, c0.ms, some ⟨(p : Int), c0.ep + 1⟩⟩ := by
     unfold addL at hal; split at hal
     ·cases hal
     ·cases hal; rfl
    have ok2 := ok1.heard q (p : Int)
    have hroom2 : roomB (s1.heard q (p : Int)).lg 1 = true := hroom
    have hh : helloS s1 q (p : Int) c0.cfg.ep = layS (s1.heard q (p : Int)) q c1 := by unfold helloS; rw [hc0, hal]
    rw [hh] at hhc
    have ok3 := ok2.lay (r := q) (by show q < s1.rn; omega) ok1c
    have g3 := Gr.lay ok2 (r := q) (by show q < s1.rn; omega) ok1c
    obtain ⟨lr1, lr2, lr3⟩ := lay_room hroom2 q c1
    obtain ⟨s3, out3, hs3e⟩ : ∃ s3 o, layS (s1.heard q (p : Int)) q c1 = (s3, o) := ⟨_, _, rfl⟩
    have hup3 : s3.up = true := by have := congrArg (fun x => x.1.up) hs3e; exact this.symm.trans hup1
    have hrn3 : s3.rn = rn := by have := congrArg (fun x => x.1.rn) hs3e; exact this.symm.trans hrn1
    have hnn3 : s3.nn = nn := by have := congrArg (fun x => x.1.nn) hs3e; exact this.symm.trans hnn1
    have hdc3 : s3.dc = 0 := by have := congrArg (fun x => x.1.dc) hs3e; exact this.symm.trans hdc1
    rw [hs3e] at hhc ok3 g3 lr1 lr2 lr3
    simp only [] at ok3 g3 lr1 lr2 lr3
    have hol : out3.length = nn := lr2.trans hnn1
    have hsz := sil_heard (t := s3) ok1 (r := q) (n := p) (by omega) (by rw [lr3]; exact updF_same)
    have hcf2 : confS s3 (q : Int) = c1.cfg := by rw [conf_up hup3 (by omega), lr1]
    have few3 : (recs s3.lg).length ≤ 1204 + 0 := by have h1 := g3.2; have h2 := td1.few; have h3 : (s1.heard q (p : Int)).lg = s1.lg := rfl; rw [h3] at h1; omega
    have seg3 : SegM s3.lg := g3.1 td1.seg
    refine WX.call rfl hhc rfl ?_
    rintro _ _ ⟨h6, ho, rfl, hm3, hs3⟩
    simp only [] at hm3 hs3
    have hr3 := hs3.rs
    obtain ⟨op, oc, rfl⟩ := hr3.len
    have hcq := mconf_ct ok3 hm3 (q : Int)
    rw [hcf2] at hcq
    have hsq := msil_ct ok3 hm3 (q : Int) (p : Int)
    rw [hsz] at hsq
    have hE1 : c1.cfg.ep = c0.cfg.ep + 1 := by rw [hc1e]; rfl
    have hJ1 : c1.cfg.jo = true := by rw [hc1e]; rfl
    have hL1 : c1.cfg.le.enc = [.int .i64 (p : Int), .int .i64 (c0.cfg.ep + 1)] := by rw [hc1e]; rfl
    have t7 : cellsEq [.i, .i] c1.cfg.le.enc [.int .i64 (p : Int), .int .i64 (c0.cfg.ep + 1)] = some true := by rw [hL1]; exact cells_self rfl
    have t9 : cellsEq kCfg c1.cfg.enc c1.cfg.enc = some true := cells_self rfl
    have hcc1 := mhandle_ct ok3 hm3 (caughtJ q p c0.cfg.ep)
    rw [handle_caught hup3 hdc3 (by omega) (by omega)] at hcc1
    obtain ⟨c2, hgr, hc2e⟩ : ∃ c2, growL c1 = some c2 ∧ c2 = ⟨c1.ep + 1, c1.ms ++ [⟨(p : Int), c0.ep + 1⟩], none⟩ := by
     refine ⟨_, ?_, rfl⟩
     unfold growL
     have : c1.ep = c0.ep + 1 := hE1
     rw [if_neg (by omega)]
     rw [hc1e]
    have hca : caughtS s3 q c0.cfg.ep = (s3, []) := by
     unfold caughtS
     rw [lr1, hgr]
     simp only []
     have : c1.ep = c0.cfg.ep + 1 := hE1
     rw [if_neg (by omega)]
    rw [hca] at hcc1
    have ok4c := ok1c.growL hgr
    simp only [List.cons_append, List.nil_append]
    repeat' (first | refine go ?_ | refine mv ?_ | (refine I.ld ?_; refine ld rfl ?_) | refine asg ?_ | (refine I.gd ?_; first | refine gy ?_ | refine gF ?_) | (refine I.fa ?_; refine fa ?_) | (refine I.bin ?_; refine cm rfl rfl ?_) | (refine I.pk ?_; refine pF ?_) | (refine I.cond ?_; refine cF ?_) | refine al (fun _ => ?_) | (refine I.cl ?_; first | refine WX.callQ rfl hcq rfl ?_ | refine WX.callQ rfl hsq rfl ?_) | (refine I.st ?_; refine sGW Cfg.z.enc c1.cfg.enc rfl rfl ?_) | fail)
    rename_i c1b
    refine W.hp (H' := [CfBk c1b c1.cfg, h6, ho, [(fb, .cells (List.toArray (Ad4.enc ⟨1, 0, (q : Int), (p : Int)⟩)) 42 (0, 0))], CfBk cb c0.cfg, h4, LBk lb a rn nn e, h0, R]) rfl ?_
    rw [hjo]
    repeat' (first | refine go ?_ | refine mv ?_ | (refine I.ld ?_; refine ld rfl ?_) | (refine I.gd ?_; first | refine gy ?_ | refine gF ?_) | (refine I.fa ?_; refine fa ?_) | (refine I.bin ?_; refine cm rfl rfl ?_) | (refine I.pk ?_; refine pF ?_) | (refine I.cond ?_; refine cF ?_) | (refine I.bi ?_; refine ln rfl (by assumption) ?_) | (refine I.un ?_; refine nt ?_) | fail)
    rw [hJ1]
    repeat' (first | refine go ?_ | refine mv ?_ | (refine I.ld ?_; refine ld rfl ?_) | (refine I.gd ?_; refine gy ?_) | (refine I.fa ?_; refine fa ?_) | (refine I.bin ?_; refine ad ?_) | (refine I.pk ?_; refine pF ?_) | (refine I.cond ?_; refine cF ?_) | (refine I.ld ?_; first | refine lAN (t := 35) c1.cfg.enc c1.cfg.le.enc rfl ?_ | refine lAN (Ad4.enc ⟨1, 0, (q : Int), (p : Int)⟩) (Ad4.enc ⟨1, 0, (q : Int), (p : Int)⟩) rfl ?_) | (refine I.bin ?_; refine WX.neqA rfl rfl t7 rfl ?_) | (refine I.bd ?_; first | refine bdN (t := 35) [.int .i64 (p : Int), .int .i64 (c0.cfg.ep + 1)] ?_ (hf' := by exact rfl) | refine bdN (caughtJ q p c0.cfg.ep).enc ?_) | fail)
    refine WX.call rfl hcc1 rfl ?_
    rintro _ _ ⟨h7, ho7, rfl, hm4, hs4⟩
    simp only [] at hm4 hs4
    have hcq4 := mconf_ct ok3 hm4 (q : Int)
    rw [hcf2] at hcq4
    have hcc2 := mhandle_ct ok3 hm4 (caughtJ q p c1.cfg.ep)
    rw [handle_caught hup3 hdc3 (by omega) (by omega)] at hcc2
    have hroom3 : roomB s3.lg 1 = true := room_many ok3.lg seg3 (by omega)
    have hcb : caughtS s3 q c1.cfg.ep = layS s3 q c2 := by
     unfold caughtS
     rw [lr1, hgr]
     simp only []
     exact if_pos rfl
    rw [hcb] at hcc2
    have ok5 := ok3.lay (r := q) (by omega) ok4c
    obtain ⟨lr4, -, -⟩ := lay_room hroom3 q c2
    have hup5 : (layS s3 q c2).1.up = true := hup3
    have hrn5 : (layS s3 q c2).1.rn = rn := hrn3
    have hcf5 : confS (layS s3 q c2).1 (q : Int) = c2.cfg := by rw [conf_up hup5 (by omega), lr4]
    have hE2 : c2.cfg.ep = c1.cfg.ep + 1 := by rw [hc2e]; rfl
    have hJ2 : c2.cfg.jo = false := by rw [hc2e]; rfl
    have hla := last_ct ok4c
    rw [show lastC c2 = (p : Int) by rw [hc2e]; unfold lastC; simp] at hla
    have hfu := full_ct ok4c (p : Int)
    rw [show c2.has (p : Int) = true by rw [hc2e]; unfold Ch.has; simp] at hfu
    simp only [List.cons_append, List.nil_append]
    repeat' (first | refine go ?_ | fail)
    refine W.quiet Tryz.mix (by kernel_rfl) ?_
    repeat' (first | refine go ?_ | refine mv ?_ | (refine I.cond ?_; refine cF ?_) | (refine I.cl ?_; refine WX.callQ rfl hcq4 rfl ?_) | (refine I.ld ?_; refine lAN c1.cfg.enc c1.cfg.enc rfl ?_) | (refine I.bin ?_; refine WX.neqA rfl rfl t9 rfl ?_) | fail)
    repeat' (first | (refine I.ld ?_; refine ld rfl ?_) | (refine I.fa ?_; refine fa ?_) | (refine I.ld ?_; refine lAN (Ad4.enc ⟨1, 0, (q : Int), (p : Int)⟩) (Ad4.enc ⟨1, 0, (q : Int), (p : Int)⟩) rfl ?_) | (refine I.bd ?_; refine bdN (caughtJ q p c1.cfg.ep).enc ?_) | fail)
    refine WX.call rfl hcc2 rfl ?_
    rintro _ _ ⟨h8, ho8, rfl, hm5, hs5⟩
    have hcq5 := mconf_ct ok5 hm5 (q : Int)
    rw [hcf5] at hcq5
    simp only [List.cons_append, List.nil_append]
    repeat' (first | refine go ?_ | refine mv ?_ | (refine I.ld ?_; refine ld rfl ?_) | (refine I.gd ?_; first | refine gy ?_ | refine gT ?_) | (refine I.fa ?_; refine fa ?_) | (refine I.bin ?_; first | refine cm rfl rfl ?_ | refine ad ?_) | (refine I.pk ?_; refine pT ?_) | (refine I.un ?_; refine nt ?_) | refine al (fun _ => ?_) | (refine I.cl ?_; refine WX.callQ rfl hcq5 rfl ?_) | (refine I.st ?_; refine sGW Cfg.z.enc c2.cfg.enc rfl rfl ?_) | fail)
    rw [hJ2]
    repeat' (first | refine go ?_ | refine mv ?_ | refine asg ?_ | (refine I.gd ?_; first | refine gy ?_ | refine gT ?_) | (refine I.bin ?_; refine cm rfl rfl ?_) | (refine I.pk ?_; refine pT ?_) | (refine I.cl ?_; first | refine WX.callQ rfl hla rfl ?_ | refine WX.callQ rfl hfu rfl ?_) | (refine I.ld ?_; refine lAN c2.cfg.enc c2.cfg.enc rfl ?_) | fail)
    exact D.fin1 [h0] _ rfl rfl ⟨rfl, rfl⟩
 ·have hbad := mnewBad_ct i1 hok
  have hbadd := dnewBad_ct hok
  repeat' (first | refine go ?_ | refine mv ?_ | refine asg ?_ | (refine I.bin ?_; first | refine cm rfl rfl ?_ | refine np rfl rfl ?_) | (refine I.cond ?_; first | refine cT ?_ | refine cF ?_ | refine cN ?_) | (refine I.bi ?_; refine ln rfl (by assumption) ?_) | refine ex ?_ | (refine I.un ?_; refine nt ?_) | refine bx rfl (fun _ => ?_) | (refine I.cl ?_; first | refine WX.callQ rfl able_ct rfl ?_ | refine WX.callQ rfl hbad rfl ?_ | refine WX.callQ rfl hbadd rfl ?_) | (refine I.ld ?_; refine lAN (LayV a b c e) (LayV a b c e) rfl ?_) | fail)
  exact D.fin1 [h0] _ rfl rfl ⟨rfl, rfl⟩
end Go.Proofs.YtfcefidmdijjkaaGreat
