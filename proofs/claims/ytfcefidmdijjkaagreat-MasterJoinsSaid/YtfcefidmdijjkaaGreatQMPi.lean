/-
  Texts of one road, one behind the other.
-/
import Derived.Test.YtfcefidmdijjkaaGreatQMPg
import Derived.Test.YtfcefidmdijjkaaGreatQMPe
import Derived.Test.YtfcefidmdijjkaaGreatQMPf
set_option linter.unusedVariables false
set_option linter.unusedSimpArgs false
namespace Go.Proofs.YtfcefidmdijjkaaGreat
open Go Go.Sl
theorem start_up (s : MS) : (startS s).up = true := by
 unfold startS; split
 ·rename_i h; exact h
 ·rfl
theorem start_ch (s : MS) : (startS s).ch = s.ch := by unfold startS; split <;> rfl
theorem conf_up {s : MS} (hup : s.up = true) {r : Nat} (hr : r < s.rn) : confS s (r : Int) = (s.ch r).cfg := by
 unfold confS; rw [if_pos ⟨hup, by omega, by omega⟩]; rfl
theorem sil_zero {s : MS} (h : s.up = false) (r : Int) : silS (startS s) r 0 = 0 := by
 unfold silS
 split
 ·rw [show (startS s).wt r.toNat = List.replicate s.nn 0 by unfold startS; rw [if_neg (by rw [h]; decide)]]
  split
  ·rw [List.getD_eq_getElem?_getD, List.getElem?_replicate]
   split <;> rfl
  ·rfl
 ·rfl
set_option maxRecDepth 10000 in
set_option maxHeartbeats 1000000 in
theorem mback_ct {a b c e : Int} (i1 : I64 a) {acts : List Ac} {v : Value} {h0 : Hp} (hs : Rs acts v h0) (hl : acts.length ≤ 1099511627776) (y : Msg) :
  Ct Tryz.prog 5 [.agg (List.toArray (LayV a b c e)), v, .agg (List.toArray y.enc)] [h0] (fun r H' => r = .bool true ∧ H' = [h0]) := by
 obtain ⟨vp, vc, rfl⟩ := hs.len
 refine Ct.mk' Tryz.func5 rfl rfl rfl (fun g R => ?_)
 try simp only [List.cons_append]
 simp only [List.nil_append]
 by_cases hbig : 400 < acts.length
 ·repeat' (first | refine go ?_ | refine mv ?_ | refine asg ?_ | (refine I.bin ?_; refine cm rfl rfl ?_) | (refine I.cond ?_; first | refine cF ?_ | refine cP ?_) | (refine I.bi ?_; refine ln rfl (by assumption) ?_) | (refine I.un ?_; refine nt ?_) | refine bx rfl (fun _ => ?_) | (refine I.cl ?_; refine WX.callQ rfl able_ct rfl ?_) | fail)
  exact D.fin1 [h0] _ rfl rfl ⟨rfl, rfl⟩
 by_cases hok : OkL a b c e 0
 ·obtain ⟨rn, rfl⟩ : ∃ rn : Nat, b = (rn : Int) := ⟨b.toNat, by have := hok.h2; omega⟩
  obtain ⟨nn, rfl⟩ : ∃ nn : Nat, c = (nn : Int) := ⟨c.toNat, by have := hok.h3; omega⟩
  have hb := hok.h2
  have hc := hok.h3
  have hnew := mnewOk_ct hok
  have hnewd := dnewOk_ct hok
  repeat' (first | refine go ?_ | refine mv ?_ | refine asg ?_ | (refine I.bin ?_; refine cm rfl rfl ?_) | (refine I.cond ?_; first | refine cF ?_ | refine cN ?_) | (refine I.bi ?_; refine ln rfl (by assumption) ?_) | (refine I.un ?_; refine nt ?_) | refine bx rfl (fun _ => ?_) | (refine I.cl ?_; refine WX.callQ rfl able_ct rfl ?_) | (refine I.ld ?_; refine lAN (LayV a rn nn e) (LayV a rn nn e) rfl ?_) | fail)
  rename_i lb yb
  refine WX.call rfl hnew rfl ?_
  rintro _ _ ⟨bm, h1, rfl, rfl, hm⟩
  simp only [List.cons_append, List.nil_append]
  repeat' (first | refine go ?_ | refine mv ?_ | refine asg ?_ | refine ex ?_ | (refine I.ld ?_; refine lAN (LayV a rn nn e) (LayV a rn nn e) rfl ?_) | fail)
  refine WX.call rfl hnewd rfl ?_
  rintro _ _ ⟨bd, h2, rfl, rfl, hd⟩
  simp only [List.cons_append, List.nil_append]
  repeat' (first | refine go ?_ | refine mv ?_ | refine asg ?_ | (refine I.bin ?_; refine cm rfl rfl ?_) | (refine I.cond ?_; refine cF ?_) | refine ex ?_ | fail)
  refine W.hp (H' := [h2, h1, [(yb, .cells (List.toArray y.enc) 54 (0, 0))], LBk lb a rn nn e, h0, R]) rfl ?_
  refine W.loop (α := Nat × MS × Hp × Hp) (fun x => x.1 ≤ acts.length ∧ MsOk x.2.1 ∧ SameL (newS a rn nn e 0) x.2.1 ∧ IsMs x.2.1 bm x.2.2.1 ∧ IsDs x.2.1 bd x.2.2.2) (fun x => [(1, .slice vp acts.length vc), (3, .pointer (some ⟨lb, 0, none⟩)), (5, .pointer (some ⟨yb, 0, none⟩)), (7, .pointer (some ⟨bm, 0, none⟩)), (9, .pointer (some ⟨bd, 0, none⟩)), (11, .int .i64 (x.1 : Int))])
   (fun x => [x.2.2.1, x.2.2.2, [(yb, .cells (List.toArray y.enc) 54 (0, 0))], LBk lb a rn nn e, h0, R]) (fun x => acts.length - x.1) (0, newS a rn nn e 0, h1, h2) ⟨Nat.zero_le _, newS_ok (by omega) (by omega) (by omega) (by omega), ⟨rfl, rfl, rfl, rfl, rfl⟩, hm, hd⟩ (by repeat (first | exact Fsub.nil | refine Fsub.cons rfl ?_)) (Hsub.of_picks inferInstance) ?_
  rintro ⟨i, s, h3, h4⟩ ⟨hi, ok, hsl, hm1, hd1⟩
  simp only [] at hi ok hsl hm1 hd1 ⊢
  by_cases hlt : i < acts.length
  ·obtain ⟨x, hx⟩ : ∃ x, acts[i]? = some x := ⟨_, List.getElem?_eq_getElem hlt⟩
   have okA := actP_ok ok 0 x
   have slA := hsl.trans (actP_same s 0 x)
   repeat' (first | refine go ?_ | refine mv ?_ | (refine I.bin ?_; refine cm rfl rfl ?_) | (refine I.cond ?_; refine cP ?_) | (refine I.bi ?_; refine ln rfl (by assumption) ?_) | (refine I.ix ?_; refine ix rfl rfl ?_) | (refine I.ld ?_; refine WX.loadEW rfl hs hx rfl rfl ?_) | fail)
   refine WX.call rfl (act_ct ok hm1 hd1 0 x) rfl ?_
   rintro _ _ ⟨rfl, h5, h6, rfl, hm2, hd2⟩
   simp only [List.cons_append, List.nil_append]
   repeat' (first | refine go ?_ | refine mv ?_ | refine asg ?_ | (refine I.bin ?_; refine ad ?_) | fail)
   exact D.round (i + 1, actP s 0 x, h5, h6) ⟨by simp only []; omega, okA, slA, hm2, hd2⟩ (by simp only []; omega) (by repeat (first | exact Fsub.nil | refine Fsub.cons rfl ?_)) (Hsub.of_picks inferInstance)
  ·obtain rfl : i = acts.length := by omega
   have ok1 := ok.start
   obtain ⟨s1, hs1⟩ : ∃ s1, startS s = s1 := ⟨_, rfl⟩
   have hsc := mstartS_ct ok hm1
   have hup1 := start_up s
   have hrn1 : (startS s).rn = rn := (hsl.trans (start_same s)).rn
   rw [hs1] at ok1 hsc hup1 hrn1
   repeat' (first | refine go ?_ | refine mv ?_ | (refine I.bin ?_; refine cm rfl rfl ?_) | (refine I.cond ?_; refine cN ?_) | (refine I.bi ?_; refine ln rfl (by assumption) ?_) | fail)
   refine WX.call rfl hsc rfl ?_
   rintro _ _ ⟨rfl, h5, rfl, hm2⟩
   simp only [List.cons_append, List.nil_append]
   repeat' (first | refine go ?_ | refine asg ?_ | fail)
   refine W.nilH ?_
   refine W.loop (α := Nat × Value × Hp) (fun x => x.1 ≤ rn ∧ IsSl 38 (rowF x.1 fun r => (s1.ch r).cfg) x.2.1 x.2.2) (fun x => [(3, .pointer (some ⟨lb, 0, none⟩)), (5, .pointer (some ⟨yb, 0, none⟩)), (7, .pointer (some ⟨bm, 0, none⟩)), (12, x.2.1), (13, .int .i64 (x.1 : Int))])
    (fun x => [x.2.2, h5, [(yb, .cells (List.toArray y.enc) 54 (0, 0))], LBk lb a rn nn e, h0, R]) (fun x => rn - x.1) (0, .slice none 0 0, []) ⟨Nat.zero_le _, IsSl.nil _⟩ (by repeat (first | exact Fsub.nil | refine Fsub.cons rfl ?_)) (Hsub.of_picks inferInstance) ?_
   rintro ⟨k, w, hw⟩ ⟨hk, hsw⟩
   simp only [] at hk hsw ⊢
   have hwl : (rowF k fun r => (s1.ch r).cfg).length = k := rowF_len
   by_cases hltk : k < rn
   ·have hcf := mconf_ct ok1 hm2 (k : Int)
    rw [conf_up hup1 (by omega)] at hcf
    repeat' (first | refine go ?_ | refine mv ?_ | (refine I.ld ?_; refine ld rfl ?_) | (refine I.fa ?_; refine fa ?_) | (refine I.bin ?_; refine cm rfl rfl ?_) | (refine I.cond ?_; refine cP ?_) | (refine I.cl ?_; refine WX.callQ rfl hcf rfl ?_) | fail)
    refine I.bs ?_
    refine WX.lit (ys := [(s1.ch k).cfg]) rfl rfl rfl rfl rfl rfl (by decide) rfl (fun v2 h7 hs7 => ?_)
    skip
    refine WX.app rfl rfl hsw hs7.rs rfl rfl (by decide) (by simp only [List.length_cons, List.length_nil]; omega) rfl (fun v3 h8 hs8 => ?_)
    rw [← rowF_succ (f := fun r => (s1.ch r).cfg)] at hs8
    repeat' (first | refine go ?_ | refine mv ?_ | refine asg ?_ | (refine I.bin ?_; refine ad ?_) | fail)
    exact D.round (k + 1, v3, h8) ⟨by simp only []; omega, hs8⟩ (by simp only []; omega) (by repeat (first | exact Fsub.nil | refine Fsub.cons rfl ?_)) (Hsub.of_picks inferInstance)
   ·obtain rfl : k = rn := by omega
    have ok2 := ok1.crash
    obtain ⟨s2, hs2⟩ : ∃ s2, crashS s1 = s2 := ⟨_, rfl⟩
    have hcr := mcrashS_ct hm2
    have hup2 : s2.up = false := by rw [← hs2]; rfl
    have hch2 : s2.ch = s1.ch := by rw [← hs2]; rfl
    have hrn2 : s2.rn = k := by rw [← hs2]; exact hrn1
    rw [hs2] at ok2 hcr
    have hrw := hsw.rs
    obtain ⟨wp, wc, rfl⟩ := hrw.len
    repeat' (first | refine go ?_ | refine mv ?_ | (refine I.ld ?_; refine ld rfl ?_) | (refine I.fa ?_; refine fa ?_) | (refine I.bin ?_; refine cm rfl rfl ?_) | (refine I.cond ?_; refine cN ?_) | fail)
    refine WX.call rfl hcr rfl ?_
    rintro _ _ ⟨rfl, h9, rfl, hm3⟩
    have hu3 := mup_ct hm3
    rw [hup2] at hu3
    have hhc := mhandle_ct ok2 hm3 y
    rw [show handleS s2 y = (s2, []) by unfold handleS; rw [if_pos hup2]] at hhc
    simp only [List.cons_append, List.nil_append]
    repeat' (first | refine go ?_ | refine mv ?_ | (refine I.gd ?_; refine gy ?_) | (refine I.cl ?_; refine WX.callQ rfl hu3 rfl ?_) | (refine I.ld ?_; refine lAN y.enc y.enc rfl ?_) | fail)
    refine WX.call rfl hhc rfl ?_
    rintro v9 _ ⟨h10, ho10, rfl, hm4, hs10⟩
    have hr10 := hs10.rs
    obtain ⟨p10, c10, rfl⟩ := hr10.len
    have htc := mtick_ct ok2 hm4
    rw [show tickS s2 = (s2, []) by unfold tickS; rw [if_neg (by rw [hup2]; decide)]] at htc
    simp only [List.cons_append, List.nil_append]
    repeat' (first | refine mv ?_ | (refine I.gd ?_; refine gy ?_) | (refine I.bin ?_; refine cm rfl rfl ?_) | (refine I.pk ?_; refine pF ?_) | (refine I.bi ?_; refine ln rfl (by assumption) ?_) | fail)
    refine WX.call rfl htc rfl ?_
    rintro v11 _ ⟨h11, ho11, rfl, hm5, hs11⟩
    have hr11 := hs11.rs
    obtain ⟨p11, c11, rfl⟩ := hr11.len
    have hxc := msus_ct ok2 hm5 0 0
    rw [show susS s2 0 0 = (s2, []) by unfold susS; rw [if_neg (by rw [hup2]; simp)]] at hxc
    simp only [List.cons_append, List.nil_append]
    repeat' (first | refine mv ?_ | (refine I.gd ?_; refine gy ?_) | (refine I.bin ?_; refine cm rfl rfl ?_) | (refine I.pk ?_; refine pF ?_) | (refine I.bi ?_; refine ln rfl (by assumption) ?_) | fail)
    refine WX.call rfl hxc rfl ?_
    rintro v12 _ ⟨h12, ho12, rfl, hm6, hs12⟩
    have hr12 := hs12.rs
    obtain ⟨p12, c12, rfl⟩ := hr12.len
    have hcf := mconf_ct ok2 hm6 0
    rw [show confS s2 0 = Cfg.z by unfold confS; rw [if_neg (by rw [hup2]; simp)]] at hcf
    have t8 : cellsEq kCfg Cfg.z.enc Cfg.z.enc = some true := cells_self rfl
    simp only [List.cons_append, List.nil_append]
    repeat' (first | refine go ?_ | refine mv ?_ | (refine I.gd ?_; refine gy ?_) | (refine I.bin ?_; refine cm rfl rfl ?_) | (refine I.pk ?_; refine pF ?_) | (refine I.cond ?_; refine cF ?_) | (refine I.bi ?_; refine ln rfl (by assumption) ?_) | (refine I.cl ?_; refine WX.callQ rfl hcf rfl ?_) | (refine I.bd ?_; refine bdN Cfg.z.enc ?_) | (refine I.bin ?_; refine WX.neqA rfl rfl t8 rfl ?_) | fail)
    have ok3 := ok2.start
    obtain ⟨s3, hs3⟩ : ∃ s3, startS s2 = s3 := ⟨_, rfl⟩
    have hst := mstartS_ct ok2 hm6
    have hup3 := start_up s2
    have hch3 := start_ch s2
    have hrn3 : (startS s2).rn = k := by rw [(start_same s2).rn]; exact hrn2
    have hsl3 := fun r => sil_zero hup2 r
    rw [hs3] at ok3 hst hup3 hch3 hrn3
    simp only [hs3] at hsl3
    refine WX.call rfl hst rfl ?_
    rintro _ _ ⟨rfl, h13, rfl, hm7⟩
    have hu7 := mup_ct hm7
    rw [hup3] at hu7
    simp only [List.cons_append, List.nil_append]
    repeat' (first | refine go ?_ | refine asg ?_ | fail)
    refine W.loop (α := Nat) (fun q => q ≤ k) (fun q => [(3, .pointer (some ⟨lb, 0, none⟩)), (7, .pointer (some ⟨bm, 0, none⟩)), (12, .slice wp (rowF k fun r => (s1.ch r).cfg).length wc), (14, .int .i64 (q : Int))])
     (fun q => [h13, hw, LBk lb a k nn e, h0, R]) (fun q => k - q) 0 (Nat.zero_le _) (by repeat (first | exact Fsub.nil | refine Fsub.cons rfl ?_)) (Hsub.of_picks inferInstance) ?_
    intro q hq
    by_cases hlq : q < k
    ·have hcf7 := mconf_ct ok3 hm7 (q : Int)
     rw [conf_up hup3 (by omega), hch3, hch2] at hcf7
     have hsi7 := msil_ct ok3 hm7 (q : Int) 0
     rw [hsl3] at hsi7
     have hget : (rowF k fun r => (s1.ch r).cfg)[q]? = some (s1.ch q).cfg := rowF_get hlq
     have t9 : cellsEq kCfg (s1.ch q).cfg.enc (s1.ch q).cfg.enc = some true := cells_self rfl
     repeat' (first | refine go ?_ | refine mv ?_ | (refine I.ld ?_; refine ld rfl ?_) | (refine I.fa ?_; refine fa ?_) | (refine I.bin ?_; refine cm rfl rfl ?_) | (refine I.cond ?_; refine cP ?_) | fail)
     refine W.quiet Tryz.mix (by kernel_rfl) ?_
     repeat' (first | refine go ?_ | refine mv ?_ | refine asg ?_ | (refine I.gd ?_; refine gy ?_) | (refine I.bin ?_; first | refine cm rfl rfl ?_ | refine ad ?_) | (refine I.pk ?_; refine pF ?_) | (refine I.cond ?_; refine cF ?_) | (refine I.ix ?_; refine ix rfl rfl ?_) | (refine I.cl ?_; first | refine WX.callQ rfl hcf7 rfl ?_ | refine WX.callQ rfl hsi7 rfl ?_) | (refine I.ld ?_; refine WX.loadEW rfl hrw hget rfl rfl ?_) | (refine I.bin ?_; refine WX.neqA rfl rfl t9 rfl ?_) | fail)
     exact D.round (q + 1) (by omega) (by omega) (by repeat (first | exact Fsub.nil | refine Fsub.cons rfl ?_)) (Hsub.of_picks inferInstance)
    ·obtain rfl : q = k := by omega
     repeat' (first | refine go ?_ | refine mv ?_ | (refine I.ld ?_; refine ld rfl ?_) | refine asg ?_ | (refine I.fa ?_; refine fa ?_) | (refine I.bin ?_; refine cm rfl rfl ?_) | (refine I.cond ?_; refine cN ?_) | (refine I.cl ?_; refine WX.callQ rfl hu7 rfl ?_) | fail)
     exact D.fin1 [h0] _ rfl rfl ⟨rfl, rfl⟩
 ·have hbad := mnewBad_ct i1 hok
  have hbadd := dnewBad_ct hok
  repeat' (first | refine go ?_ | refine mv ?_ | refine asg ?_ | (refine I.bin ?_; first | refine cm rfl rfl ?_ | refine np rfl rfl ?_) | (refine I.cond ?_; first | refine cT ?_ | refine cF ?_ | refine cN ?_) | (refine I.bi ?_; refine ln rfl (by assumption) ?_) | refine ex ?_ | (refine I.un ?_; refine nt ?_) | refine bx rfl (fun _ => ?_) | (refine I.cl ?_; first | refine WX.callQ rfl able_ct rfl ?_ | refine WX.callQ rfl hbad rfl ?_ | refine WX.callQ rfl hbadd rfl ?_) | (refine I.ld ?_; refine lAN (LayV a b c e) (LayV a b c e) rfl ?_) | fail)
  exact D.fin1 [h0] _ rfl rfl ⟨rfl, rfl⟩
end Go.Proofs.YtfcefidmdijjkaaGreat
