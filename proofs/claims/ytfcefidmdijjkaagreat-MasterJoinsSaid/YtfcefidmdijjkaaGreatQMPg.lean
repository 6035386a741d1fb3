/-
  Texts of one road, one behind the other.
-/
import Derived.Test.YtfcefidmdijjkaaGreatQMPf
set_option linter.unusedVariables false
set_option linter.unusedSimpArgs false
namespace Go.Proofs.YtfcefidmdijjkaaGreat
open Go Go.Sl
theorem lay_len4 {s : MS} (ok : MsOk s) {r : Nat} {c : Ch} : (layS s r c).2.length ≤ 4 := Nat.le_trans lay_len ok.n4
theorem handle_len {s : MS} (ok : MsOk s) (x : Msg) : (handleS s x).2.length ≤ 12 := by
 have h4 : ∀ {t : MS} (r : Nat) (c : Ch), MsOk t → (layS t r c).2.length ≤ 12 := fun r c h => Nat.le_trans (lay_len4 h) (by decide)
 unfold handleS
 split
 ·exact Nat.zero_le _
 split
 ·show (if _ then _ else _ : List Msg).length ≤ 12
  split
  ·exact (by decide : 1 ≤ 12)
  ·exact Nat.zero_le _
 split
 ·exact Nat.zero_le _
 split
 ·unfold helloS
  split
  ·exact h4 _ _ (ok.heard _ _)
  ·show (if _ then _ else _ : List Msg).length ≤ 12
   split
   ·exact (by decide : 1 ≤ 12)
   ·exact Nat.zero_le _
 split
 ·unfold caughtS
  split
  ·split
   ·exact h4 _ _ ok
   ·exact Nat.zero_le _
  ·exact Nat.zero_le _
 ·exact Nat.zero_le _
theorem tick_len {s : MS} (ok : MsOk s) : (tickS s).2.length ≤ 12 := by
 unfold tickS
 split
 ·have h1 := tickK_len (s := s) s.rn
  have h2 : s.nn * s.rn ≤ 4 * 3 := Nat.mul_le_mul ok.n4 ok.r3
  omega
 ·exact Nat.zero_le _
theorem sus_len {s : MS} (ok : MsOk s) (r n : Int) : (susS s r n).2.length ≤ 12 := by
 unfold susS
 split
 ·split
  ·exact Nat.le_trans (lay_len4 ok) (by decide)
  ·exact Nat.zero_le _
 ·exact Nat.zero_le _
def actP (s : MS) (dc : Int) (a : Ac) : MS := if a.k = 1 then (handleS s a.m).1 else (actT s dc a).1
theorem actP_ok {s : MS} (ok : MsOk s) (dc : Int) (a : Ac) : MsOk (actP s dc a) := by
 unfold actP; split
 ·exact ok.handle _
 ·exact actT_ok ok dc a
theorem actP_same (s : MS) (dc : Int) (a : Ac) : SameL s (actP s dc a) := by
 unfold actP; split
 ·exact (SameM.handle s _).l
 ·exact actT_same s dc a
set_option maxRecDepth 10000 in
set_option maxHeartbeats 1000000 in
theorem act_ct {s : MS} (ok : MsOk s) {bm bd : Nat} {h1 h2 : Hp} (hm : IsMs s bm h1) (hd : IsDs s bd h2) (dc : Int) (x : Ac) :
  Ct Tryz.prog 11 [.pointer (some ⟨bm, 0, none⟩), .pointer (some ⟨bd, 0, none⟩), .int .i64 dc, .agg (List.toArray x.enc)] [h1, h2]
   (fun r H' => r = .bool true ∧ ∃ h3 h4, H' = [h3, h4] ∧ IsMs (actP s dc x) bm h3 ∧ IsDs (actP s dc x) bd h4) := by
 by_cases k1 : x.k = 1
 ·have hA : actP s dc x = (handleS s x.m).1 := by unfold actP; rw [if_pos k1]
  have hc1 := mhandle_ct ok hm x.m
  have hc2 := dhandle_ct ok hd x.m
  refine Ct.mk' Tryz.func11 rfl rfl rfl (fun g R => ?_)
  try simp only [List.cons_append]
  simp only [List.nil_append]
  repeat' (first | refine go ?_ | (refine I.ld ?_; refine ld rfl ?_) | refine asg ?_ | (refine I.fa ?_; refine fa ?_) | (refine I.bin ?_; refine cm rfl rfl ?_) | (refine I.cond ?_; refine cP ?_) | refine bx rfl (fun _ => ?_) | fail)
  rename_i b7
  refine W.mixN 8 [true, true, true, false, true, true, true, false, false, true] [[(b7, .cells (List.toArray x.enc) 56 (0, 0))]] Tryz.mix (by kernel_rfl) ?_
  repeat' (first | refine go ?_ | refine mv ?_ | (refine I.fa ?_; refine fa ?_) | refine mU ?_ | refine mA ?_ | (refine I.ld ?_; refine lAN x.enc x.m.enc rfl ?_) | fail)
  refine WX.call rfl hc1 rfl ?_
  rintro v1 _ ⟨h3, ho3, rfl, hm3, hs3⟩
  simp only [List.cons_append, List.nil_append]
  repeat' (first | refine go ?_ | refine mv ?_ | (refine I.fa ?_; refine fa ?_) | refine mU ?_ | refine mA ?_ | (refine I.ld ?_; refine lAN x.enc x.m.enc rfl ?_) | fail)
  refine WX.call rfl hc2 rfl ?_
  rintro v2 _ ⟨h4, ho4, rfl, hd4, hs4⟩
  simp only [List.cons_append, List.nil_append]
  repeat' (first | refine go ?_ | refine mA ?_ | fail)
  refine WX.callQ rfl (msgs_ct hs3.rs hs4.rs (by have := handle_len ok x.m; omega)) rfl ?_
  repeat' (first | refine go ?_ | refine asg ?_ | refine mN ?_ | refine WX.nil ?_ | refine mU ?_ | fail)
  exact D.fin1 [h3, h4] _ rfl rfl ⟨rfl, h3, h4, rfl, by rw [hA]; exact hm3, by rw [hA]; exact hd4⟩
 by_cases k2 : x.k = 2
 ·have hA : actP s dc x = (tickS s).1 := by unfold actP actT; rw [if_neg k1, if_pos k2]
  have hc1 := mtick_ct ok hm
  have hc2 := dtick_ct ok hd
  refine Ct.mk' Tryz.func11 rfl rfl rfl (fun g R => ?_)
  try simp only [List.cons_append]
  simp only [List.nil_append]
  repeat' (first | refine go ?_ | refine mv ?_ | (refine I.ld ?_; refine ld rfl ?_) | refine asg ?_ | (refine I.fa ?_; refine fa ?_) | (refine I.bin ?_; refine cm rfl rfl ?_) | (refine I.cond ?_; first | refine cP ?_ | refine cN ?_) | refine bx rfl (fun _ => ?_) | fail)
  refine WX.call rfl hc1 rfl ?_
  rintro v1 _ ⟨h3, ho3, rfl, hm3, hs3⟩
  simp only [List.cons_append, List.nil_append]
  repeat' (first | refine mv ?_ | fail)
  refine WX.call rfl hc2 rfl ?_
  rintro v2 _ ⟨h4, ho4, rfl, hd4, hs4⟩
  simp only [List.cons_append, List.nil_append]
  skip
  refine WX.callQ rfl (msgs_ct hs3.rs hs4.rs (by have := tick_len ok; omega)) rfl ?_
  repeat' (first | refine go ?_ | refine asg ?_ | fail)
  exact D.fin1 [h3, h4] _ rfl rfl ⟨rfl, h3, h4, rfl, by rw [hA]; exact hm3, by rw [hA]; exact hd4⟩
 by_cases k3 : x.k = 3
 ·have hA : actP s dc x = (susS s x.a x.b).1 := by unfold actP actT; rw [if_neg k1, if_neg k2, if_pos k3]
  have hc1 := msus_ct ok hm x.a x.b
  have hc2 := dsus_ct ok hd x.a x.b
  refine Ct.mk' Tryz.func11 rfl rfl rfl (fun g R => ?_)
  try simp only [List.cons_append]
  simp only [List.nil_append]
  repeat' (first | refine go ?_ | (refine I.ld ?_; refine ld rfl ?_) | refine asg ?_ | (refine I.fa ?_; refine fa ?_) | (refine I.bin ?_; refine cm rfl rfl ?_) | (refine I.cond ?_; first | refine cP ?_ | refine cN ?_) | refine bx rfl (fun _ => ?_) | fail)
  rename_i b7
  refine W.mixN 8 (List.replicate 5 true ++ [false] ++ List.replicate 5 true ++ [false, false, true]) [[(b7, .cells (List.toArray x.enc) 56 (0, 0))]] Tryz.mix (by kernel_rfl) ?_
  repeat' (first | refine go ?_ | refine mv ?_ | (refine I.ld ?_; refine ld rfl ?_) | (refine I.fa ?_; refine fa ?_) | refine mU ?_ | refine mA ?_ | fail)
  refine WX.call rfl hc1 rfl ?_
  rintro v1 _ ⟨h3, ho3, rfl, hm3, hs3⟩
  simp only [List.cons_append, List.nil_append]
  repeat' (first | refine go ?_ | refine mv ?_ | (refine I.ld ?_; refine ld rfl ?_) | (refine I.fa ?_; refine fa ?_) | refine mU ?_ | refine mA ?_ | fail)
  refine WX.call rfl hc2 rfl ?_
  rintro v2 _ ⟨h4, ho4, rfl, hd4, hs4⟩
  simp only [List.cons_append, List.nil_append]
  repeat' (first | refine go ?_ | refine mA ?_ | fail)
  refine WX.callQ rfl (msgs_ct hs3.rs hs4.rs (by have := sus_len ok x.a x.b; omega)) rfl ?_
  repeat' (first | refine go ?_ | refine asg ?_ | refine mN ?_ | refine WX.nil ?_ | refine mU ?_ | fail)
  exact D.fin1 [h3, h4] _ rfl rfl ⟨rfl, h3, h4, rfl, by rw [hA]; exact hm3, by rw [hA]; exact hd4⟩
 by_cases k4 : x.k = 4
 ·have hA : actP s dc x = crashS s := by unfold actP actT; rw [if_neg k1, if_neg k2, if_neg k3, if_pos k4]
  have hc1 := mcrashS_ct hm
  have hc2 := dcrash_ct ok hd
  refine Ct.mk' Tryz.func11 rfl rfl rfl (fun g R => ?_)
  try simp only [List.cons_append]
  simp only [List.nil_append]
  repeat' (first | refine go ?_ | refine mv ?_ | (refine I.ld ?_; refine ld rfl ?_) | refine asg ?_ | (refine I.fa ?_; refine fa ?_) | (refine I.bin ?_; refine cm rfl rfl ?_) | (refine I.cond ?_; first | refine cP ?_ | refine cN ?_) | refine bx rfl (fun _ => ?_) | fail)
  refine WX.call rfl hc1 rfl ?_
  rintro v1 _ ⟨_, h3, rfl, hm3⟩
  simp only [List.cons_append, List.nil_append]
  repeat' (first | refine go ?_ | refine mv ?_ | fail)
  refine WX.call rfl hc2 rfl ?_
  rintro v2 _ ⟨_, h4, rfl, hd4⟩
  simp only [List.cons_append, List.nil_append]
  repeat' (first | refine go ?_ | refine asg ?_ | fail)
  exact D.fin1 [h3, h4] _ rfl rfl ⟨rfl, h3, h4, rfl, by rw [hA]; exact hm3, by rw [hA]; exact hd4⟩
 by_cases k5 : x.k = 5
 ·have hA : actP s dc x = startS s := by unfold actP actT; rw [if_neg k1, if_neg k2, if_neg k3, if_neg k4, if_pos k5]
  have hc1 := mstartS_ct ok hm
  have hc2 := dstart_ct ok hd
  refine Ct.mk' Tryz.func11 rfl rfl rfl (fun g R => ?_)
  try simp only [List.cons_append]
  simp only [List.nil_append]
  repeat' (first | refine go ?_ | refine mv ?_ | (refine I.ld ?_; refine ld rfl ?_) | refine asg ?_ | (refine I.fa ?_; refine fa ?_) | (refine I.bin ?_; refine cm rfl rfl ?_) | (refine I.cond ?_; first | refine cP ?_ | refine cN ?_) | refine bx rfl (fun _ => ?_) | fail)
  refine WX.call rfl hc1 rfl ?_
  rintro v1 _ ⟨_, h3, rfl, hm3⟩
  simp only [List.cons_append, List.nil_append]
  repeat' (first | refine go ?_ | refine mv ?_ | fail)
  refine WX.call rfl hc2 rfl ?_
  rintro v2 _ ⟨_, h4, rfl, hd4⟩
  simp only [List.cons_append, List.nil_append]
  repeat' (first | refine go ?_ | refine asg ?_ | fail)
  exact D.fin1 [h3, h4] _ rfl rfl ⟨rfl, h3, h4, rfl, by rw [hA]; exact hm3, by rw [hA]; exact hd4⟩
 by_cases k67 : x.k = 6 ∨ x.k = 7
 ·have hA : actP s dc x = (handleS s (turnM x dc (confS s x.a))).1 := by unfold actP actT; rw [if_neg k1, if_neg k2, if_neg k3, if_neg k4, if_neg k5, if_pos k67]
  have hcf := dconf_ct ok hd x.a
  have htc := turned_ct x dc (confS s x.a)
  obtain ⟨tm, htm⟩ : ∃ tm, turnM x dc (confS s x.a) = tm := ⟨_, rfl⟩
  rw [htm] at htc hA
  have hc1 := mhandle_ct ok hm tm
  have hc2 := dhandle_ct ok hd tm
  rcases k67 with k6 | k7
  ·refine Ct.mk' Tryz.func11 rfl rfl rfl (fun g R => ?_)
   try simp only [List.cons_append]
   simp only [List.nil_append]
   repeat' (first | refine go ?_ | (refine I.ld ?_; refine ld rfl ?_) | refine asg ?_ | (refine I.fa ?_; refine fa ?_) | (refine I.bin ?_; refine cm rfl rfl ?_) | (refine I.cond ?_; first | refine cP ?_ | refine cN ?_) | refine bx rfl (fun _ => ?_) | fail)
   rename_i b7
   refine W.mixA 8 [true, true, true, true, true, false, false, false, false] 7 [[(b7, .cells (List.toArray x.enc) 56 (0, 0))]] Tryz.mix (by kernel_rfl) rfl ?_
   repeat' (first | refine go ?_ | refine mv ?_ | (refine I.ld ?_; refine ld rfl ?_) | (refine I.fa ?_; refine fa ?_) | refine mA ?_ | refine al (fun _ => ?_) | (refine I.ld ?_; refine lAN x.enc x.enc rfl ?_) | (refine I.cl ?_; first | refine WX.callQ rfl hcf rfl ?_ | refine WX.callQ rfl htc rfl ?_) | refine WA.un ?_ | refine WA.backU ?_ | refine WA.back ?_ | refine WA.an ?_ ?_ | refine WA.nil ?_ | fail)
   all_goals
    rename_i b9
    refine WX.hp (H' := [[(b9, .cells (List.toArray Msg.z.enc) 54 (0, 0))], [(b7, .cells (List.toArray x.enc) 56 (0, 0))], h1, h2, R]) rfl ?_
    refine I.st ?_
    refine sGW Msg.z.enc tm.enc rfl rfl ?_
    repeat' (first | refine go ?_ | refine mN ?_ | refine WX.nil ?_ | fail)
    refine W.mixN 8 [true, true, false, true, true, false, false, true] [[(b9, .cells (List.toArray tm.enc) 54 (0, 0))]] Tryz.mix (by kernel_rfl) ?_
    repeat' (first | refine go ?_ | refine mv ?_ | refine mU ?_ | refine mA ?_ | (refine I.ld ?_; refine lAN tm.enc tm.enc rfl ?_) | fail)
    refine WX.call rfl hc1 rfl ?_
    rintro v1 _ ⟨h3, ho3, rfl, hm3, hs3⟩
    simp only [List.cons_append, List.nil_append]
    repeat' (first | refine go ?_ | refine mv ?_ | refine mU ?_ | refine mA ?_ | (refine I.ld ?_; refine lAN tm.enc tm.enc rfl ?_) | fail)
    refine WX.call rfl hc2 rfl ?_
    rintro v2 _ ⟨h4, ho4, rfl, hd4, hs4⟩
    simp only [List.cons_append, List.nil_append]
    repeat' (first | refine go ?_ | refine mA ?_ | fail)
    refine WX.callQ rfl (msgs_ct hs3.rs hs4.rs (by have := handle_len ok tm; omega)) rfl ?_
    repeat' (first | refine go ?_ | refine asg ?_ | refine mN ?_ | refine WX.nil ?_ | refine mU ?_ | fail)
    exact D.fin1 [h3, h4] _ rfl rfl ⟨rfl, h3, h4, rfl, by rw [hA]; exact hm3, by rw [hA]; exact hd4⟩
  ·refine Ct.mk' Tryz.func11 rfl rfl rfl (fun g R => ?_)
   try simp only [List.cons_append]
   simp only [List.nil_append]
   repeat' (first | refine go ?_ | (refine I.ld ?_; refine ld rfl ?_) | refine asg ?_ | (refine I.fa ?_; refine fa ?_) | (refine I.bin ?_; refine cm rfl rfl ?_) | (refine I.cond ?_; first | refine cP ?_ | refine cN ?_) | refine bx rfl (fun _ => ?_) | fail)
   rename_i b7
   refine W.mixA 8 [true, true, true, true, true, false, false, false, false] 7 [[(b7, .cells (List.toArray x.enc) 56 (0, 0))]] Tryz.mix (by kernel_rfl) rfl ?_
   repeat' (first | refine go ?_ | refine mv ?_ | (refine I.ld ?_; refine ld rfl ?_) | (refine I.fa ?_; refine fa ?_) | refine mA ?_ | refine al (fun _ => ?_) | (refine I.ld ?_; refine lAN x.enc x.enc rfl ?_) | (refine I.cl ?_; first | refine WX.callQ rfl hcf rfl ?_ | refine WX.callQ rfl htc rfl ?_) | refine WA.un ?_ | refine WA.backU ?_ | refine WA.back ?_ | refine WA.an ?_ ?_ | refine WA.nil ?_ | fail)
   all_goals
    rename_i b9
    refine WX.hp (H' := [[(b9, .cells (List.toArray Msg.z.enc) 54 (0, 0))], [(b7, .cells (List.toArray x.enc) 56 (0, 0))], h1, h2, R]) rfl ?_
    refine I.st ?_
    refine sGW Msg.z.enc tm.enc rfl rfl ?_
    repeat' (first | refine go ?_ | refine mN ?_ | refine WX.nil ?_ | fail)
    refine W.mixN 8 [true, true, false, true, true, false, false, true] [[(b9, .cells (List.toArray tm.enc) 54 (0, 0))]] Tryz.mix (by kernel_rfl) ?_
    repeat' (first | refine go ?_ | refine mv ?_ | refine mU ?_ | refine mA ?_ | (refine I.ld ?_; refine lAN tm.enc tm.enc rfl ?_) | fail)
    refine WX.call rfl hc1 rfl ?_
    rintro v1 _ ⟨h3, ho3, rfl, hm3, hs3⟩
    simp only [List.cons_append, List.nil_append]
    repeat' (first | refine go ?_ | refine mv ?_ | refine mU ?_ | refine mA ?_ | (refine I.ld ?_; refine lAN tm.enc tm.enc rfl ?_) | fail)
    refine WX.call rfl hc2 rfl ?_
    rintro v2 _ ⟨h4, ho4, rfl, hd4, hs4⟩
    simp only [List.cons_append, List.nil_append]
    repeat' (first | refine go ?_ | refine mA ?_ | fail)
    refine WX.callQ rfl (msgs_ct hs3.rs hs4.rs (by have := handle_len ok tm; omega)) rfl ?_
    repeat' (first | refine go ?_ | refine asg ?_ | refine mN ?_ | refine WX.nil ?_ | refine mU ?_ | fail)
    exact D.fin1 [h3, h4] _ rfl rfl ⟨rfl, h3, h4, rfl, by rw [hA]; exact hm3, by rw [hA]; exact hd4⟩
 ·have k6 : ¬ x.k = 6 := fun h => k67 (.inl h)
  have k7 : ¬ x.k = 7 := fun h => k67 (.inr h)
  have hA : actP s dc x = s := by unfold actP actT; rw [if_neg k1, if_neg k2, if_neg k3, if_neg k4, if_neg k5, if_neg k67]
  refine Ct.mk' Tryz.func11 rfl rfl rfl (fun g R => ?_)
  try simp only [List.cons_append]
  simp only [List.nil_append]
  repeat' (first | refine go ?_ | (refine I.ld ?_; refine ld rfl ?_) | refine asg ?_ | (refine I.fa ?_; refine fa ?_) | (refine I.bin ?_; refine cm rfl rfl ?_) | (refine I.cond ?_; refine cN ?_) | refine bx rfl (fun _ => ?_) | fail)
  exact D.fin1 [h1, h2] _ rfl rfl ⟨rfl, h1, h2, rfl, by rw [hA]; exact hm, by rw [hA]; exact hd⟩
end Go.Proofs.YtfcefidmdijjkaaGreat

namespace Go.Proofs.YtfcefidmdijjkaaGreat
open Go Go.Sl
set_option maxRecDepth 10000 in
theorem mplays_ct {a b c e dc : Int} (i1 : I64 a) {acts : List Ac} {v : Value} {h0 : Hp} (hs : Rs acts v h0) (hl : acts.length ≤ 1099511627776) :
  Ct Tryz.prog 4 [.agg (List.toArray (LayV a b c e)), .int .i64 dc, v] [h0] (fun r H' => r = .bool true ∧ H' = [h0]) := by
 obtain ⟨vp, vc, rfl⟩ := hs.len
 refine Ct.mk' Tryz.func4 rfl rfl rfl (fun g R => ?_)
 try simp only [List.cons_append]
 simp only [List.nil_append]
 by_cases hbig : 400 < acts.length
 ·repeat' (first | refine go ?_ | refine mv ?_ | refine asg ?_ | (refine I.bin ?_; refine cm rfl rfl ?_) | (refine I.cond ?_; first | refine cF ?_ | refine cP ?_) | (refine I.bi ?_; refine ln rfl (by assumption) ?_) | (refine I.un ?_; refine nt ?_) | refine bx rfl (fun _ => ?_) | (refine I.cl ?_; refine WX.callQ rfl able_ct rfl ?_) | fail)
  exact D.fin1 [h0] _ rfl rfl ⟨rfl, rfl⟩
 by_cases hok : OkL a b c e dc
 ·obtain ⟨rn, rfl⟩ : ∃ rn : Nat, b = (rn : Int) := ⟨b.toNat, by have := hok.h2; omega⟩
  obtain ⟨nn, rfl⟩ : ∃ nn : Nat, c = (nn : Int) := ⟨c.toNat, by have := hok.h3; omega⟩
  have hb := hok.h2
  have hc := hok.h3
  have hnew := mnewOk_ct hok
  have hnewd := dnewOk_ct hok
  repeat' (first | refine go ?_ | refine mv ?_ | refine asg ?_ | (refine I.bin ?_; refine cm rfl rfl ?_) | (refine I.cond ?_; first | refine cF ?_ | refine cN ?_) | (refine I.bi ?_; refine ln rfl (by assumption) ?_) | (refine I.un ?_; refine nt ?_) | refine bx rfl (fun _ => ?_) | (refine I.cl ?_; refine WX.callQ rfl able_ct rfl ?_) | (refine I.ld ?_; refine lAN (LayV a rn nn e) (LayV a rn nn e) rfl ?_) | fail)
  rename_i lb
  refine WX.call rfl hnew rfl ?_
  rintro _ _ ⟨bm, h1, rfl, rfl, hm⟩
  simp only [List.cons_append, List.nil_append]
  repeat' (first | refine go ?_ | refine mv ?_ | refine asg ?_ | refine ex ?_ | (refine I.ld ?_; refine lAN (LayV a rn nn e) (LayV a rn nn e) rfl ?_) | fail)
  refine WX.call rfl hnewd rfl ?_
  rintro _ _ ⟨bd, h2, rfl, rfl, hd⟩
  simp only [List.cons_append, List.nil_append]
  repeat' (first | refine go ?_ | refine mv ?_ | refine asg ?_ | (refine I.gd ?_; refine gy ?_) | (refine I.bin ?_; first | refine cm rfl rfl ?_ | refine np rfl rfl ?_) | refine ex ?_ | fail)
  refine I.bin ?_
  refine WX.neqB rfl rfl rfl ?_
  rw [show (!(false == false)) = false from rfl]
  repeat' (first | refine go ?_ | refine mv ?_ | refine asg ?_ | (refine I.bin ?_; refine np rfl rfl ?_) | (refine I.pk ?_; refine pF ?_) | (refine I.cond ?_; refine cF ?_) | fail)
  refine W.loop (α := Nat × MS × Hp × Hp) (fun x => x.1 ≤ acts.length ∧ MsOk x.2.1 ∧ SameL (newS a rn nn e dc) x.2.1 ∧ IsMs x.2.1 bm x.2.2.1 ∧ IsDs x.2.1 bd x.2.2.2) (fun x => [(1, .int .i64 dc), (2, .slice vp acts.length vc), (7, .pointer (some ⟨bm, 0, none⟩)), (9, .pointer (some ⟨bd, 0, none⟩)), (11, .int .i64 (x.1 : Int))])
   (fun x => [x.2.2.1, x.2.2.2, h0, R]) (fun x => acts.length - x.1) (0, newS a rn nn e dc, h1, h2) ⟨Nat.zero_le _, newS_ok (by omega) (by omega) (by omega) (by omega), ⟨rfl, rfl, rfl, rfl, rfl⟩, hm, hd⟩ (by repeat (first | exact Fsub.nil | refine Fsub.cons rfl ?_)) (Hsub.of_picks inferInstance) ?_
  rintro ⟨i, s, h3, h4⟩ ⟨hi, ok, hsl, hm1, hd1⟩
  simp only [] at hi ok hsl hm1 hd1 ⊢
  by_cases hlt : i < acts.length
  ·obtain ⟨x, hx⟩ : ∃ x, acts[i]? = some x := ⟨_, List.getElem?_eq_getElem hlt⟩
   have okA := actP_ok ok dc x
   have slA := hsl.trans (actP_same s dc x)
   repeat' (first | refine go ?_ | refine mv ?_ | (refine I.bin ?_; refine cm rfl rfl ?_) | (refine I.cond ?_; refine cP ?_) | (refine I.bi ?_; refine ln rfl (by assumption) ?_) | (refine I.ix ?_; refine ix rfl rfl ?_) | (refine I.ld ?_; refine WX.loadEW rfl hs hx rfl rfl ?_) | fail)
   refine WX.call rfl (act_ct ok hm1 hd1 dc x) rfl ?_
   rintro _ _ ⟨rfl, h5, h6, rfl, hm2, hd2⟩
   simp only [List.cons_append, List.nil_append]
   repeat' (first | refine go ?_ | refine mv ?_ | refine asg ?_ | (refine I.gd ?_; refine gy ?_) | (refine I.bin ?_; refine ad ?_) | (refine I.pk ?_; refine pF ?_) | (refine I.cond ?_; refine cF ?_) | (refine I.un ?_; refine nt ?_) | (refine I.cl ?_; refine WX.callQ rfl (looks_ct okA hm2 hd2) rfl ?_) | fail)
   exact D.round (i + 1, actP s dc x, h5, h6) ⟨by simp only []; omega, okA, slA, hm2, hd2⟩ (by simp only []; omega) (by repeat (first | exact Fsub.nil | refine Fsub.cons rfl ?_)) (Hsub.of_picks inferInstance)
  ·obtain rfl : i = acts.length := by omega
   repeat' (first | refine go ?_ | refine mv ?_ | refine asg ?_ | (refine I.bin ?_; refine cm rfl rfl ?_) | (refine I.cond ?_; refine cN ?_) | (refine I.bi ?_; refine ln rfl (by assumption) ?_) | (refine I.cl ?_; refine WX.callQ rfl (looks_ct ok hm1 hd1) rfl ?_) | fail)
   exact D.fin1 [h0] _ rfl rfl ⟨rfl, rfl⟩
 ·have hbad := mnewBad_ct i1 hok
  have hbadd := dnewBad_ct hok
  repeat' (first | refine go ?_ | refine mv ?_ | refine asg ?_ | (refine I.gd ?_; refine gy ?_) | (refine I.bin ?_; first | refine cm rfl rfl ?_ | refine np rfl rfl ?_) | (refine I.cond ?_; first | refine cF ?_ | refine cN ?_) | (refine I.bi ?_; refine ln rfl (by assumption) ?_) | refine ex ?_ | (refine I.un ?_; refine nt ?_) | refine bx rfl (fun _ => ?_) | (refine I.cl ?_; first | refine WX.callQ rfl able_ct rfl ?_ | refine WX.callQ rfl hbad rfl ?_ | refine WX.callQ rfl hbadd rfl ?_) | (refine I.ld ?_; refine lAN (LayV a b c e) (LayV a b c e) rfl ?_) | fail)
  refine I.bin ?_
  refine WX.neqB rfl rfl rfl ?_
  rw [show (!(true == true)) = false from rfl]
  repeat' (first | refine go ?_ | refine mv ?_ | refine asg ?_ | (refine I.bin ?_; refine np rfl rfl ?_) | (refine I.pk ?_; refine pF ?_) | (refine I.cond ?_; first | refine cT ?_ | refine cF ?_) | fail)
  exact D.fin1 [h0] _ rfl rfl ⟨rfl, rfl⟩
end Go.Proofs.YtfcefidmdijjkaaGreat
