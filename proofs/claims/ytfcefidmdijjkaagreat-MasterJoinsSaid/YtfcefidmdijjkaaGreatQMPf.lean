/-
  Texts of one road, one behind the other.
-/
import Derived.Test.YtfcefidmdijjkaaGreatQMPe
import Derived.Test.YtfcefidmdijjkaaGreatQMPd
import Derived.Test.YtfcefidmdijjkaaGreatQMPc
import Derived.Test.YtfcefidmdijjkaaGreatQMPb
set_option linter.unusedVariables false
set_option linter.unusedSimpArgs false
namespace Go.Proofs.YtfcefidmdijjkaaGreat
open Go Go.Sl
theorem layS_ct {s : MS} (ok : MsOk s) (b d w : Nat) (bq : Nat → Nat) {h : Hp} (hd : IsDk (dk s.lg) d h) {torn : Int} {r : Nat} (hr : r < s.rn) {c : Ch} (hc : ChOk c) :
  Ct Tryz.prog 28 [.pointer (some ⟨b, 0, none⟩), .int .i64 (r : Int), .agg (List.toArray c.cfg.enc)] [MtBk b (s.mu d w bq).mt, WBk w d (lastN s.lg) torn, h]
   (fun v H' => ∃ h' ho, H' = [MtBk b ((layS s r c).1.mu d w bq).mt, WBk w d (lastN (layS s r c).1.lg) torn, h', ho] ∧ IsDk (dk (layS s r c).1.lg) d h' ∧ IsSl 54 (layS s r c).2 v ho) := by
 have h1 := lay_ct b (s.mu d w bq) (nn := s.nn) rfl ok.n4 ok.lg hd (torn := torn) (r := r) (by have := ok.r3; omega) (Ch.cfgN hc)
 rw [show layR s.lg (s.mu d w bq).c (s.mu d w bq).dc s.nn r c.cfg = _ from layR_s ok hr hc] at h1
 exact h1
def confS (s : MS) (r : Int) : Cfg := if s.up = true ∧ 0 ≤ r ∧ r < (s.rn : Int) then (s.ch r.toNat).cfg else Cfg.z
theorem mconfU_ct {s : MS} (ok : MsOk s) (hup : s.up = true) (b d w : Nat) (bq : Nat → Nat) (r : Int) :
  Ct Tryz.prog 10 [.pointer (some ⟨b, 0, none⟩), .int .i64 r] [MtBk b (s.mu d w bq).mt] (fun v H' => v = .agg (List.toArray (confS s r).enc) ∧ H' = [MtBk b (s.mu d w bq).mt]) := by
 have r1 := ok.r1; have r3 := ok.r3; have n4 := ok.n4
 have hrg := ranged_ct b (m := (s.mu d w bq).mt) (by show (1 : Int) ≤ (s.rn : Int); omega) (by show (s.rn : Int) ≤ 3; omega) r
 refine Ct.mk' Tryz.func10 rfl rfl rfl (fun g R => ?_)
 try simp only [List.cons_append]
 simp only [List.nil_append]
 by_cases h3 : 0 ≤ r ∧ r < (s.rn : Int)
 ·rw [show (decide ((s.mu d w bq).mt.up = true ∧ 0 ≤ r ∧ r < (s.mu d w bq).mt.rn)) = true from decide_eq_true ⟨rfl, h3⟩] at hrg
  have hc : confS s r = (s.ch r.toNat).cfg := by unfold confS; rw [if_pos ⟨hup, h3⟩]
  rw [hc]
  repeat' (first | refine go ?_ | refine mv ?_ | (refine I.fa ?_; refine fa ?_) | (refine I.nc ?_; refine nc ?_) | (refine I.cond ?_; refine cF ?_) | (refine I.ix ?_; refine iP ?_) | (refine I.un ?_; refine nt ?_) | refine al (fun _ => ?_) | (refine I.cl ?_; refine WX.callQ rfl hrg rfl ?_) | (refine I.ld ?_; refine lAN (Mt.enc (s.mu d w bq).mt) (s.ch r.toNat).cfg.enc rfl ?_ (hc := ok.cfg (by omega))) | (refine I.st ?_; refine sGW Cfg.z.enc (s.ch r.toNat).cfg.enc rfl rfl ?_) | fail)
  exact D.finR1 [MtBk b (s.mu d w bq).mt] _ rfl (.cellA rfl rfl .nil) ⟨rfl, rfl⟩
 ·rw [show (decide ((s.mu d w bq).mt.up = true ∧ 0 ≤ r ∧ r < (s.mu d w bq).mt.rn)) = false from decide_eq_false fun h => h3 h.2] at hrg
  have hc : confS s r = Cfg.z := by unfold confS; rw [if_neg fun h => h3 h.2]
  rw [hc]
  repeat' (first | refine go ?_ | refine mv ?_ | (refine I.cond ?_; refine cT ?_) | (refine I.un ?_; refine nt ?_) | refine al (fun _ => ?_) | (refine I.cl ?_; refine WX.callQ rfl hrg rfl ?_) | (refine I.bd ?_; refine bdN Cfg.z.enc ?_) | (refine I.st ?_; refine sGW Cfg.z.enc Cfg.z.enc rfl rfl ?_) | fail)
  exact D.finR1 [MtBk b (s.mu d w bq).mt] _ rfl (.cellA rfl rfl .nil) ⟨rfl, rfl⟩
theorem mconfD_ct (b : Nat) (dcs cl dc : Int) {rn : Nat} (r1 : 1 ≤ rn) (r3 : rn ≤ 3) (nn : Int) (d : Nat) (r : Int) :
  Ct Tryz.prog 10 [.pointer (some ⟨b, 0, none⟩), .int .i64 r] [MtBk b (MtD dcs rn nn cl dc d)] (fun v H' => v = .agg (List.toArray Cfg.z.enc) ∧ H' = [MtBk b (MtD dcs rn nn cl dc d)]) := by
 have hrg := ranged_ct b (m := MtD dcs rn nn cl dc d) (by show (1 : Int) ≤ (rn : Int); omega) (by show (rn : Int) ≤ 3; omega) r
 rw [show (decide ((MtD dcs rn nn cl dc d).up = true ∧ 0 ≤ r ∧ r < (MtD dcs rn nn cl dc d).rn)) = false from decide_eq_false fun h => by cases h.1] at hrg
 refine Ct.mk' Tryz.func10 rfl rfl rfl (fun g R => ?_)
 try simp only [List.cons_append]
 simp only [List.nil_append]
 repeat' (first | refine go ?_ | refine mv ?_ | (refine I.cond ?_; refine cT ?_) | (refine I.un ?_; refine nt ?_) | refine al (fun _ => ?_) | (refine I.cl ?_; refine WX.callQ rfl hrg rfl ?_) | (refine I.bd ?_; refine bdN Cfg.z.enc ?_) | (refine I.st ?_; refine sGW Cfg.z.enc Cfg.z.enc rfl rfl ?_) | fail)
 exact D.finR1 [MtBk b (MtD dcs rn nn cl dc d)] _ rfl (.cellA rfl rfl .nil) ⟨rfl, rfl⟩
theorem mconf_ct {s : MS} (ok : MsOk s) {b : Nat} {h : Hp} (hm : IsMs s b h) (r : Int) :
  Ct Tryz.prog 10 [.pointer (some ⟨b, 0, none⟩), .int .i64 r] [h] (fun v H' => v = .agg (List.toArray (confS s r).enc) ∧ H' = [h]) := by
 rcases hm with ⟨hup, d, w, torn, bq, hd, hw, rfl, _, _⟩ | ⟨hup, d, hd, rfl, _⟩
 ·exact (mconfU_ct ok hup b d w bq r).ext
 ·have := (mconfD_ct b s.dcs s.cl s.dc ok.r1 ok.r3 s.nn d r).ext (r := hd)
  rw [show confS s r = Cfg.z by unfold confS; rw [if_neg (by rw [hup]; simp)]]
  exact this
theorem mup_ct {s : MS} {b : Nat} {h : Hp} (hm : IsMs s b h) :
  Ct Tryz.prog 12 [.pointer (some ⟨b, 0, none⟩)] [h] (fun v H' => v = .bool s.up ∧ H' = [h]) := by
 rcases hm with ⟨hup, d, w, torn, bq, hd, hw, rfl, _, _⟩ | ⟨hup, d, hd, rfl, _⟩
 ·rw [hup]; exact (up_ct b (s.mu d w bq).mt).ext
 ·rw [hup]; exact (up_ct b (MtD s.dcs s.rn s.nn s.cl s.dc d)).ext
def susS (s : MS) (r n : Int) : MS × List Msg := if s.up = true ∧ 0 ≤ r ∧ r < (s.rn : Int) then (match dropL (s.ch r.toNat) n with | some c => layS s r.toNat c | none => (s, [])) else (s, [])
def MsPost (q : MS × List Msg) (b : Nat) (v : Value) (H' : HH) : Prop := ∃ h' ho, H' = [h', ho] ∧ IsMs q.1 b h' ∧ IsSl 54 q.2 v ho
theorem msus_ct {s : MS} (ok : MsOk s) {b : Nat} {h : Hp} (hm : IsMs s b h) (r n : Int) :
  Ct Tryz.prog 20 [.pointer (some ⟨b, 0, none⟩), .int .i64 r, .int .i64 n] [h] (MsPost (susS s r n) b) := by
 have r1 := ok.r1; have r3 := ok.r3; have n4 := ok.n4
 have hm0 := id hm
 rcases hm with ⟨hup, d, w, torn, bq, hd, hw, rfl, hdk, hw3⟩ | ⟨hup, d, hd, rfl, hdk⟩
 ·have hrg := ranged_ct b (m := (s.mu d w bq).mt) (by show (1 : Int) ≤ (s.rn : Int); omega) (by show (s.rn : Int) ≤ 3; omega) r
  by_cases h3 : 0 ≤ r ∧ r < (s.rn : Int)
  ·rw [show (decide ((s.mu d w bq).mt.up = true ∧ 0 ≤ r ∧ r < (s.mu d w bq).mt.rn)) = true from decide_eq_true ⟨rfl, h3⟩] at hrg
   obtain ⟨k, rfl⟩ : ∃ k : Nat, r = (k : Int) := ⟨r.toNat, by omega⟩
   have hk : k < s.rn := by omega
   have hdc := drop_ct (ok.ch k hk) n
   have hS : susS s (k : Int) n = match dropL (s.ch k) n with | some c => layS s k c | none => (s, []) := by unfold susS; rw [if_pos ⟨hup, h3⟩]; rfl
   rw [hS]
   refine Ct.mk' Tryz.func20 rfl rfl rfl (fun g R => ?_)
   try simp only [List.cons_append]
   simp only [List.nil_append]
   refine W.flat (H' := [MtBk b (s.mu d w bq).mt, WBk w d (lastN s.lg) torn, hd, hw, R]) (by simp) ?_
   repeat' (first | refine go ?_ | refine mv ?_ | refine asg ?_ | (refine I.fa ?_; refine fa ?_) | (refine I.nc ?_; refine nc ?_) | (refine I.cond ?_; refine cF ?_) | (refine I.ix ?_; refine iP ?_) | refine ex ?_ | (refine I.un ?_; refine nt ?_) | refine al (fun _ => ?_) | (refine I.cl ?_; first | refine WX.callQ rfl hrg rfl ?_ | refine WX.callQ rfl hdc rfl ?_) | (refine I.ld ?_; refine lAN (Mt.enc (s.mu d w bq).mt) (s.ch k).cfg.enc rfl ?_ (hc := ok.cfg hk)) | fail)
   cases hdl : dropL (s.ch k) n with
   | none =>
    repeat' (first | refine go ?_ | refine mv ?_ | refine asg ?_ | (refine I.cond ?_; refine cT ?_) | (refine I.un ?_; refine nt ?_) | (refine I.st ?_; refine sGW Cfg.z.enc Cfg.z.enc rfl rfl ?_) | fail)
    refine D.nilH ?_
    exact D.fin1 [MtBk b (s.mu d w bq).mt ++ (WBk w d (lastN s.lg) torn ++ (hd ++ hw)), []] _ rfl rfl ⟨_, [], rfl, hm0, IsSl.nil _⟩
   | some c =>
    have hc := (ok.ch k hk).dropL hdl
    repeat' (first | refine go ?_ | refine mv ?_ | refine asg ?_ | (refine I.cond ?_; refine cF ?_) | (refine I.un ?_; refine nt ?_) | (refine I.st ?_; refine sGW Cfg.z.enc c.cfg.enc rfl rfl ?_) | (refine I.ld ?_; refine lAN c.cfg.enc c.cfg.enc rfl ?_) | fail)
    refine WX.call rfl (layS_ct ok b d w bq hdk (torn := torn) hk hc) rfl ?_
    rintro v _ ⟨h', ho, rfl, hdk', hs'⟩
    simp only [List.cons_append, List.nil_append]
    repeat' (first | refine go ?_ | refine asg ?_ | fail)
    exact D.fin1 [MtBk b ((layS s k c).1.mu d w bq).mt ++ (WBk w d (lastN (layS s k c).1.lg) torn ++ (h' ++ hw)), ho] _ rfl rfl ⟨_, _, rfl, .inl ⟨hup, d, w, torn, bq, h', hw, rfl, hdk', hw3⟩, hs'⟩
  ·rw [show (decide ((s.mu d w bq).mt.up = true ∧ 0 ≤ r ∧ r < (s.mu d w bq).mt.rn)) = false from decide_eq_false fun h => h3 h.2] at hrg
   have hS : susS s r n = (s, []) := by unfold susS; rw [if_neg fun h => h3 h.2]
   rw [hS]
   refine Ct.mk' Tryz.func20 rfl rfl rfl (fun g R => ?_)
   try simp only [List.cons_append]
   simp only [List.nil_append]
   refine W.flat (H' := [MtBk b (s.mu d w bq).mt, WBk w d (lastN s.lg) torn, hd, hw, R]) (by simp) ?_
   repeat' (first | refine go ?_ | refine mv ?_ | refine asg ?_ | (refine I.cond ?_; refine cT ?_) | (refine I.un ?_; refine nt ?_) | (refine I.cl ?_; refine WX.callQ rfl hrg rfl ?_) | fail)
   refine D.nilH ?_
   exact D.fin1 [MtBk b (s.mu d w bq).mt ++ (WBk w d (lastN s.lg) torn ++ (hd ++ hw)), []] _ rfl rfl ⟨_, [], rfl, hm0, IsSl.nil _⟩
 ·have hrg := ranged_ct b (m := MtD s.dcs s.rn s.nn s.cl s.dc d) (by show (1 : Int) ≤ (s.rn : Int); omega) (by show (s.rn : Int) ≤ 3; omega) r
  rw [show (decide ((MtD s.dcs s.rn s.nn s.cl s.dc d).up = true ∧ 0 ≤ r ∧ r < (MtD s.dcs s.rn s.nn s.cl s.dc d).rn)) = false from decide_eq_false fun h => by cases h.1] at hrg
  have hS : susS s r n = (s, []) := by unfold susS; rw [if_neg (by rw [hup]; simp)]
  rw [hS]
  refine Ct.mk' Tryz.func20 rfl rfl rfl (fun g R => ?_)
  try simp only [List.cons_append]
  simp only [List.nil_append]
  refine W.flat (H' := [MtBk b (MtD s.dcs s.rn s.nn s.cl s.dc d), hd, R]) (by simp) ?_
  repeat' (first | refine go ?_ | refine mv ?_ | refine asg ?_ | (refine I.cond ?_; refine cT ?_) | (refine I.un ?_; refine nt ?_) | (refine I.cl ?_; refine WX.callQ rfl hrg rfl ?_) | fail)
  refine D.nilH ?_
  exact D.fin1 [MtBk b (MtD s.dcs s.rn s.nn s.cl s.dc d) ++ hd, []] _ rfl rfl ⟨_, [], rfl, hm0, IsSl.nil _⟩
end Go.Proofs.YtfcefidmdijjkaaGreat

namespace Go.Proofs.YtfcefidmdijjkaaGreat
open Go Go.Sl
def foundM (dc : Int) (x : Msg) (c : Cfg) : Msg := { Msg.z with kind := 2, fr := ⟨2, dc, 0, 0⟩, to := x.fr, ix := x.ix, op := x.op, tr := x.tr, cf := c }
def MS.heard (s : MS) (r : Nat) (n : Int) : MS := s.ww (updF s.wt r (heard1 (s.wt r) n))
theorem MsOk.heard {s : MS} (ok : MsOk s) (r : Nat) (n : Int) : MsOk (s.heard r n) := ok.ww fun i => by
 unfold updF
 split
 ·rename_i h
  subst h
  exact ⟨by rw [heard1_len]; exact ok.wl i, (ok.wk i).heard [n]⟩
 ·exact ⟨ok.wl i, ok.wk i⟩
def helloS (s : MS) (r : Nat) (n ep : Int) : MS × List Msg := match addL (s.ch r) n with
 | some c => layS (s.heard r n) r c
 | none => (s.heard r n, if ep < (s.ch r).ep then [tellM s.dc r n (s.ch r).cfg] else [])
def caughtS (s : MS) (r : Nat) (ep : Int) : MS × List Msg := match growL (s.ch r) with
 | some c => if ep = (s.ch r).ep then layS s r c else (s, [])
 | none => (s, [])
def handleS (s : MS) (x : Msg) : MS × List Msg :=
 if s.up = false then (s, [])
 else if x.kind = 1 then (s, if 0 ≤ x.ix ∧ x.ix < (s.rn : Int) then [foundM s.dc x (s.ch x.ix.toNat).cfg] else [])
 else if nodeB s x.fr = false then (s, [])
 else if x.kind = 10 then helloS s x.fr.rg.toNat x.fr.nd x.ep
 else if x.kind = 11 then caughtS s x.fr.rg.toNat x.ep
 else (s, [])
theorem MsOk.epAt {s : MS} (ok : MsOk s) {d w : Nat} {bq : Nat → Nat} {r : Nat} (hr : r < s.rn) : (Mt.enc (s.mu d w bq).mt)[0 + 8 + ((r : Nat) : Int).toNat * 13 + 0]? = some (.int .i64 (s.ch r).ep) := by
 have h3 := ok.r3
 have h := ok.rep r hr
 have e : (s.ch r).ep = (Go.Proofs.YtfcefidmdijjkaaGreat.rep (recs s.lg) r).ep := by rw [h]; rfl
 rw [e]
 rcases (by omega : r = 0 ∨ r = 1 ∨ r = 2) with rfl | rfl | rfl <;> rfl
theorem mhandleDn_ct {s : MS} {b : Nat} {h : Hp} (hm : IsMs s b h) (hup : s.up = false) (x : Msg) :
  Ct Tryz.prog 18 [.pointer (some ⟨b, 0, none⟩), .agg (List.toArray x.enc)] [h] (MsPost (handleS s x) b) := by
 have hm0 := id hm
 rw [show handleS s x = (s, []) by unfold handleS; rw [if_pos hup]]
 rcases hm with ⟨hu, _⟩ | ⟨_, d, hd, rfl, hdk⟩
 ·rw [hup] at hu; cases hu
 refine Ct.mk' Tryz.func18 rfl rfl rfl (fun g R => ?_)
 try simp only [List.cons_append]
 simp only [List.nil_append]
 refine W.flat (H' := [MtBk b (MtD s.dcs s.rn s.nn s.cl s.dc d), hd, R]) (by simp) ?_
 repeat' (first | refine go ?_ | refine asg ?_ | refine bx rfl (fun _ => ?_) | fail)
 rename_i b3
 refine W.mixN 8 (List.replicate 8 true) [[(b3, .cells (List.toArray x.enc) 54 (0, 0))]] Tryz.mix (by kernel_rfl) ?_
 repeat' (first | refine go ?_ | refine mv ?_ | (refine I.ld ?_; refine ld rfl ?_) | refine asg ?_ | (refine I.fa ?_; refine fa ?_) | (refine I.nc ?_; refine nc ?_) | (refine I.cond ?_; refine cT ?_) | refine mN ?_ | refine WX.nil ?_ | refine mU ?_ | (refine I.un ?_; refine nt ?_) | fail)
 refine D.nilH ?_
 exact D.fin1 [MtBk b (MtD s.dcs s.rn s.nn s.cl s.dc d) ++ hd, []] _ rfl rfl ⟨_, [], rfl, hm0, IsSl.nil _⟩
def MsPostL (q : MS × List Msg) (b : Nat) (v : Value) (H' : HH) : Prop := ∃ d w torn bq hd hw ho, q.1.up = true ∧ H' = [MtBk b (q.1.mu d w bq).mt, WBk w d (lastN q.1.lg) torn, hd, hw, ho] ∧ IsDk (dk q.1.lg) d hd ∧ W3 WTy bq q.1.wt hw ∧ IsSl 54 q.2 v ho
theorem MsPostL.pack {P : Program} {f : FuncId} {args : List Value} {x1 x2 x3 x4 : Hp} {q : MS × List Msg} {b : Nat} (h : Ct P f args [x1, x2, x3, x4] (MsPostL q b)) : Ct P f args [x1 ++ (x2 ++ (x3 ++ x4))] (MsPost q b) :=
 Ct.pack h (by simp) fun v H' ⟨d, w, torn, bq, hd, hw, ho, h1, h2, h3, h4, h5⟩ =>
  ⟨[MtBk b (q.1.mu d w bq).mt ++ (WBk w d (lastN q.1.lg) torn ++ (hd ++ hw)), ho], by rw [h2]; simp, _, ho, rfl, .inl ⟨h1, d, w, torn, bq, hd, hw, rfl, h3, h4⟩, h5⟩
set_option maxRecDepth 4000 in
set_option maxHeartbeats 1000000 in
theorem mhandleUp_ct {s : MS} (ok : MsOk s) {b : Nat} {h : Hp} (hm : IsMs s b h) (hup : s.up = true) (x : Msg) :
  Ct Tryz.prog 18 [.pointer (some ⟨b, 0, none⟩), .agg (List.toArray x.enc)] [h] (MsPost (handleS s x) b) := by
 have r1 := ok.r1; have r3 := ok.r3; have n4 := ok.n4
 have hm0 := id hm
 rcases hm with ⟨_, d, w, torn, bq, hd, hw, rfl, hdk, hw3⟩ | ⟨hu, _⟩
 rotate_left
 ·rw [hup] at hu; cases hu
 have hrg := ranged_ct b (m := (s.mu d w bq).mt) (by show (1 : Int) ≤ (s.rn : Int); omega) (by show (s.rn : Int) ≤ 3; omega) x.ix
 have hnd := mnode_ct ok hup b d w bq x.fr
 refine MsPostL.pack ?_
 by_cases k1 : x.kind = 1
 ·by_cases h3 : 0 ≤ x.ix ∧ x.ix < (s.rn : Int)
  ·rw [show (decide ((s.mu d w bq).mt.up = true ∧ 0 ≤ x.ix ∧ x.ix < (s.mu d w bq).mt.rn)) = true from decide_eq_true ⟨rfl, h3⟩] at hrg
   have hS : handleS s x = (s, [foundM s.dc x (s.ch x.ix.toNat).cfg]) := by
    unfold handleS; rw [if_neg (by rw [hup]; decide), if_pos k1, if_pos h3]
   rw [hS]
   skip
   refine Ct.mk' Tryz.func18 rfl rfl rfl (fun g R => ?_)
   try simp only [List.cons_append]
   simp only [List.nil_append]
   repeat' (first | refine go ?_ | refine asg ?_ | refine bx rfl (fun _ => ?_) | fail)
   rename_i b3
   refine W.mixN 8 (List.replicate 8 true) [[(b3, .cells (List.toArray x.enc) 54 (0, 0))]] Tryz.mix (by kernel_rfl) ?_
   repeat' (first | refine go ?_ | refine mv ?_ | (refine I.ld ?_; refine ld rfl ?_) | refine asg ?_ | (refine I.fa ?_; refine fa ?_) | (refine I.nc ?_; refine nc ?_) | (refine I.bin ?_; refine cm rfl rfl ?_) | (refine I.cond ?_; first | refine cT ?_ | refine cF ?_ | refine cP ?_) | refine mN ?_ | refine WX.nil ?_ | refine mU ?_ | (refine I.un ?_; refine nt ?_) | (refine I.cl ?_; refine WX.callQ rfl hrg rfl ?_) | fail)
   refine W.mixN 8 (List.replicate 21 true ++ [false]) [MtBk b (s.mu d w bq).mt, [(b3, .cells (List.toArray x.enc) 54 (0, 0))]] Tryz.mix (by kernel_rfl) ?_
   repeat' (first | refine go ?_ | refine mv ?_ | (refine I.ld ?_; refine ld rfl ?_) | (refine I.fa ?_; refine fa ?_) | (refine I.nc ?_; refine nc ?_) | refine mU ?_ | refine mA ?_ | (refine I.ix ?_; refine iP ?_) | (refine I.ld ?_; first | refine lAN (t := 42) (Msg.enc x) (Ad4.enc x.fr) rfl ?_ | refine lAN (t := 38) (Mt.enc (s.mu d w bq).mt) (s.ch x.ix.toNat).cfg.enc rfl ?_ (hc := ok.cfg (by omega))) | (refine I.bd ?_; first | refine bdN (t := 42) [.int .i64 2, .int .i64 s.dc, .int .i64 0, .int .i64 0] ?_ (hf' := by exact rfl) | refine bdN (foundM s.dc x (s.ch x.ix.toNat).cfg).enc ?_) | fail)
   refine I.bs ?_
   refine WX.lit (ys := [foundM s.dc x (s.ch x.ix.toNat).cfg]) rfl rfl rfl rfl rfl rfl (by decide) rfl (fun v2 h2 hs2 => ?_)
   repeat' (first | refine go ?_ | refine asg ?_ | refine mN ?_ | fail)
   exact D.fin1 [MtBk b (s.mu d w bq).mt, WBk w d (lastN s.lg) torn, hd, hw, h2] _ rfl rfl ⟨d, w, torn, bq, hd, hw, h2, hup, rfl, hdk, hw3, hs2⟩
  ·rw [show (decide ((s.mu d w bq).mt.up = true ∧ 0 ≤ x.ix ∧ x.ix < (s.mu d w bq).mt.rn)) = false from decide_eq_false fun h => h3 h.2] at hrg
   have hS : handleS s x = (s, []) := by unfold handleS; rw [if_neg (by rw [hup]; decide), if_pos k1, if_neg h3]
   rw [hS]
   skip
   refine Ct.mk' Tryz.func18 rfl rfl rfl (fun g R => ?_)
   try simp only [List.cons_append]
   simp only [List.nil_append]
   repeat' (first | refine go ?_ | refine asg ?_ | refine bx rfl (fun _ => ?_) | fail)
   rename_i b3
   refine W.mixN 8 (List.replicate 8 true) [[(b3, .cells (List.toArray x.enc) 54 (0, 0))]] Tryz.mix (by kernel_rfl) ?_
   repeat' (first | refine go ?_ | refine mv ?_ | (refine I.ld ?_; refine ld rfl ?_) | refine asg ?_ | (refine I.fa ?_; refine fa ?_) | (refine I.nc ?_; refine nc ?_) | (refine I.bin ?_; refine cm rfl rfl ?_) | (refine I.cond ?_; first | refine cF ?_ | refine cP ?_) | refine mN ?_ | refine WX.nil ?_ | refine mU ?_ | (refine I.un ?_; refine nt ?_) | (refine I.cl ?_; refine WX.callQ rfl hrg rfl ?_) | fail)
   refine D.nilH ?_
   exact D.fin1 [MtBk b (s.mu d w bq).mt, WBk w d (lastN s.lg) torn, hd, hw, []] _ rfl rfl ⟨d, w, torn, bq, hd, hw, [], hup, rfl, hdk, hw3, IsSl.nil _⟩
 ·cases hnb : nodeB s x.fr with
  | false =>
   rw [hnb] at hnd
   have hS : handleS s x = (s, []) := by unfold handleS; rw [if_neg (by rw [hup]; decide), if_neg k1, if_pos hnb]
   rw [hS]
   skip
   refine Ct.mk' Tryz.func18 rfl rfl rfl (fun g R => ?_)
   try simp only [List.cons_append]
   simp only [List.nil_append]
   repeat' (first | refine go ?_ | refine asg ?_ | refine bx rfl (fun _ => ?_) | fail)
   rename_i b3
   refine W.mixN 8 (List.replicate 8 true) [[(b3, .cells (List.toArray x.enc) 54 (0, 0))]] Tryz.mix (by kernel_rfl) ?_
   repeat' (first | refine go ?_ | refine mv ?_ | (refine I.ld ?_; refine ld rfl ?_) | refine asg ?_ | (refine I.fa ?_; refine fa ?_) | (refine I.nc ?_; refine nc ?_) | (refine I.bin ?_; refine cm rfl rfl ?_) | (refine I.cond ?_; first | refine cT ?_ | refine cF ?_ | refine cN ?_) | refine mN ?_ | refine WX.nil ?_ | refine mU ?_ | (refine I.un ?_; refine nt ?_) | (refine I.cl ?_; refine WX.callQ rfl hnd rfl ?_) | (refine I.ld ?_; refine lAN (Msg.enc x) (Ad4.enc x.fr) rfl ?_) | fail)
   refine D.nilH ?_
   exact D.fin1 [MtBk b (s.mu d w bq).mt, WBk w d (lastN s.lg) torn, hd, hw, []] _ rfl rfl ⟨d, w, torn, bq, hd, hw, [], hup, rfl, hdk, hw3, IsSl.nil _⟩
  | true =>
   rw [hnb] at hnd
   obtain ⟨-, -, -, hr3, hn3⟩ := of_decide_eq_true (show decide _ = true from hnb)
   have hk : x.fr.rg.toNat < s.rn := by omega
   have hrI : ((x.fr.rg.toNat : Nat) : Int) = x.fr.rg := Int.toNat_of_nonneg hr3.1
   by_cases k10 : x.kind = 10
   ·have hS : handleS s x = helloS s x.fr.rg.toNat x.fr.nd x.ep := by unfold handleS; rw [if_neg (by rw [hup]; decide), if_neg k1, if_neg (by rw [hnb]; decide), if_pos k10]
    rw [hS]
    have hwt := with_ct (ok.ch _ hk) x.fr.nd
    have ok1 := ok.heard x.fr.rg.toNat x.fr.nd
    generalize hrr : x.fr.rg.toNat = r at *
    generalize hq : helloS s r x.fr.nd x.ep = q
    skip
    refine Ct.mk' Tryz.func18 rfl rfl rfl (fun g R => ?_)
    try simp only [List.cons_append]
    simp only [List.nil_append]
    repeat' (first | refine go ?_ | refine asg ?_ | refine bx rfl (fun _ => ?_) | fail)
    rename_i b3
    refine W.mixN 8 (List.replicate 8 true) [[(b3, .cells (List.toArray x.enc) 54 (0, 0))]] Tryz.mix (by kernel_rfl) ?_
    repeat' (first | refine go ?_ | refine mv ?_ | (refine I.ld ?_; refine ld rfl ?_) | refine asg ?_ | (refine I.fa ?_; refine fa ?_) | (refine I.nc ?_; refine nc ?_) | (refine I.bin ?_; refine cm rfl rfl ?_) | (refine I.cond ?_; first | refine cF ?_ | refine cP ?_ | refine cN ?_) | refine mN ?_ | refine WX.nil ?_ | refine mU ?_ | (refine I.ix ?_; refine iP ?_) | (refine I.un ?_; refine nt ?_) | (refine I.cl ?_; refine WX.callQ rfl hnd rfl ?_) | (refine I.ld ?_; refine lAN (Msg.enc x) (Ad4.enc x.fr) rfl ?_) | (refine I.ld ?_; refine lN (Mt.enc (s.mu d w bq).mt) (.pointer (some ⟨bq r, 0, none⟩)) rfl ?_ (hc := by first | (rw [← hrI]; exact Mt.wAtI (s.mu d w bq) (by omega)))) | fail)
    refine I.bs ?_
    refine WX.lit (ys := [x.fr.nd]) rfl rfl rfl rfl rfl rfl (by decide) rfl (fun v2 h2 hs2 => ?_)
    skip
    refine WX.call rfl (W3.ct hw3 (r := r) (by omega) (fun y hy => heard_ct hy hs2.rs (by simp only [List.length_cons, List.length_nil]; omega))) rfl ?_
    rintro _ _ ⟨rfl, hw', rfl, hw3'⟩
    have hw3' : W3 WTy bq (s.heard r x.fr.nd).wt hw' := hw3'
    simp only [List.cons_append, List.nil_append]
    repeat' (first | refine go ?_ | refine mv ?_ | (refine I.fa ?_; refine fa ?_) | (refine I.nc ?_; refine nc ?_) | (refine I.ix ?_; refine iP ?_) | (refine I.ld ?_; refine lAN (Mt.enc (s.mu d w bq).mt) (s.ch r).cfg.enc rfl ?_ (hc := by rw [← hrr]; exact ok.cfg (by omega))) | fail)
    refine WX.callQ rfl hwt rfl ?_
    cases hal : addL (s.ch r) x.fr.nd with
    | some c =>
     have hc := (ok.ch r hk).addL hal
     have hlay := layS_ct ok1 b d w bq hdk (torn := torn) hk hc
     rw [hrI] at hlay
     change Ct _ _ _ [MtBk b (s.mu d w bq).mt, WBk w d (lastN s.lg) torn, hd] _ at hlay
     obtain rfl : layS (s.heard r x.fr.nd) r c = q := by rw [← hq]; unfold helloS; rw [hal]
     repeat' (first | refine go ?_ | refine mv ?_ | refine asg ?_ | (refine I.cond ?_; refine cT ?_) | refine ex ?_ | refine al (fun _ => ?_) | (refine I.st ?_; refine sGW Cfg.z.enc c.cfg.enc rfl rfl ?_) | (refine I.ld ?_; refine lAN c.cfg.enc c.cfg.enc rfl ?_) | fail)
     refine WX.call rfl hlay rfl ?_
     rintro v _ ⟨h', ho, rfl, hdk', hs'⟩
     simp only [List.cons_append, List.nil_append]
     repeat' (first | refine go ?_ | refine asg ?_ | fail)
     exact D.fin1 [MtBk b ((layS (s.heard r x.fr.nd) r c).1.mu d w bq).mt, WBk w d (lastN (layS (s.heard r x.fr.nd) r c).1.lg) torn, h', hw', ho] _ rfl rfl ⟨d, w, torn, bq, h', hw', ho, hup, rfl, hdk', hw3', hs'⟩
    | none =>
     obtain rfl : (s.heard r x.fr.nd, if x.ep < (s.ch r).ep then [tellM s.dc r x.fr.nd (s.ch r).cfg] else []) = q := by rw [← hq]; unfold helloS; rw [hal]
     have htold := told_ct b (s.mu d w bq) (r := r) (by omega) x.fr.nd
     rw [hrI, show (s.mu d w bq).c r = (s.ch r).cfg from ok.rep r hk] at htold
     repeat' (first | refine go ?_ | refine mv ?_ | refine asg ?_ | (refine I.cond ?_; refine cF ?_) | refine ex ?_ | refine al (fun _ => ?_) | (refine I.st ?_; refine sGW Cfg.z.enc Cfg.z.enc rfl rfl ?_) | fail)
     rename_i b7
     refine W.mixN 8 (List.replicate 10 true) [[(b3, .cells (List.toArray x.enc) 54 (0, 0))], MtBk b (s.mu d w bq).mt] Tryz.mix (by kernel_rfl) ?_
     by_cases hep : x.ep < (s.ch r).ep
     ·skip
      repeat' (first | refine go ?_ | refine mv ?_ | (refine I.ld ?_; refine ld rfl ?_) | (refine I.fa ?_; refine fa ?_) | (refine I.nc ?_; refine nc ?_) | (refine I.bin ?_; refine cm rfl rfl ?_) | (refine I.cond ?_; refine cP ?_) | refine mN ?_ | refine WX.nil ?_ | refine mU ?_ | (refine I.ix ?_; refine iP ?_) | (refine I.ld ?_; refine lN (Mt.enc (s.mu d w bq).mt) (.int .i64 (s.ch r).ep) rfl ?_ (hc := by rw [← hrI]; exact ok.epAt hk)) | fail)
      refine WX.callQ rfl htold rfl ?_
      refine I.bs ?_
      refine WX.lit (ys := [tellM s.dc r x.fr.nd (s.ch r).cfg]) rfl rfl rfl rfl rfl rfl (by decide) rfl (fun v5 h5 hs5 => ?_)
      repeat' (first | refine go ?_ | refine asg ?_ | fail)
      exact D.fin1 [MtBk b (s.mu d w bq).mt, WBk w d (lastN s.lg) torn, hd, hw', h5] _ rfl rfl ⟨d, w, torn, bq, hd, hw', h5, hup, rfl, hdk, hw3', by simp only []; rw [if_pos hep]; exact hs5⟩
     ·skip
      repeat' (first | refine go ?_ | refine mv ?_ | (refine I.ld ?_; refine ld rfl ?_) | refine asg ?_ | (refine I.fa ?_; refine fa ?_) | (refine I.nc ?_; refine nc ?_) | (refine I.bin ?_; refine cm rfl rfl ?_) | (refine I.cond ?_; refine cN ?_) | refine mN ?_ | refine WX.nil ?_ | refine mU ?_ | (refine I.ix ?_; refine iP ?_) | (refine I.ld ?_; refine lN (Mt.enc (s.mu d w bq).mt) (.int .i64 (s.ch r).ep) rfl ?_ (hc := by rw [← hrI]; exact ok.epAt hk)) | fail)
      refine D.nilH ?_
      exact D.fin1 [MtBk b (s.mu d w bq).mt, WBk w d (lastN s.lg) torn, hd, hw', []] _ rfl rfl ⟨d, w, torn, bq, hd, hw', [], hup, rfl, hdk, hw3', by simp only []; rw [if_neg hep]; exact IsSl.nil _⟩
   ·by_cases k11 : x.kind = 11
    ·have hS : handleS s x = caughtS s x.fr.rg.toNat x.ep := by unfold handleS; rw [if_neg (by rw [hup]; decide), if_neg k1, if_neg (by rw [hnb]; decide), if_neg k10, if_pos k11]
     rw [hS]
     have hgw := grow_ct (ok.ch _ hk)
     generalize hrr : x.fr.rg.toNat = r at *
     generalize hq : caughtS s r x.ep = q
     skip
     refine Ct.mk' Tryz.func18 rfl rfl rfl (fun g R => ?_)
     try simp only [List.cons_append]
     simp only [List.nil_append]
     repeat' (first | refine go ?_ | refine asg ?_ | refine bx rfl (fun _ => ?_) | fail)
     rename_i b3
     refine W.mixN 8 (List.replicate 8 true) [[(b3, .cells (List.toArray x.enc) 54 (0, 0))]] Tryz.mix (by kernel_rfl) ?_
     repeat' (first | refine go ?_ | refine mv ?_ | (refine I.ld ?_; refine ld rfl ?_) | refine asg ?_ | (refine I.fa ?_; refine fa ?_) | (refine I.nc ?_; refine nc ?_) | (refine I.bin ?_; refine cm rfl rfl ?_) | (refine I.cond ?_; first | refine cF ?_ | refine cP ?_ | refine cN ?_) | refine mN ?_ | refine WX.nil ?_ | refine mU ?_ | (refine I.ix ?_; refine iP ?_) | (refine I.un ?_; refine nt ?_) | (refine I.cl ?_; refine WX.callQ rfl hnd rfl ?_) | (refine I.ld ?_; refine lAN (Msg.enc x) (Ad4.enc x.fr) rfl ?_) | (refine I.ld ?_; refine lAN (t := 38) (Mt.enc (s.mu d w bq).mt) (s.ch r).cfg.enc rfl ?_ (hc := by rw [← hrr]; exact ok.cfg (by omega))) | fail)
     refine WX.callQ rfl hgw rfl ?_
     cases hgl : growL (s.ch r) with
     | none =>
      obtain rfl : (s, []) = q := by rw [← hq]; unfold caughtS; rw [hgl]
      repeat' (first | refine go ?_ | refine mv ?_ | refine asg ?_ | refine ex ?_ | refine al (fun _ => ?_) | (refine I.st ?_; refine sGW Cfg.z.enc Cfg.z.enc rfl rfl ?_) | fail)
      rename_i b7
      refine W.mixN 8 (List.replicate 13 true) [[(b3, .cells (List.toArray x.enc) 54 (0, 0))], MtBk b (s.mu d w bq).mt] Tryz.mix (by kernel_rfl) ?_
      repeat' (first | refine go ?_ | refine mv ?_ | refine asg ?_ | (refine I.gd ?_; refine gn ?_) | (refine I.pk ?_; refine pF ?_) | (refine I.cond ?_; refine cF ?_) | refine mN ?_ | refine WX.nil ?_ | refine mU ?_ | fail)
      refine D.nilH ?_
      exact D.fin1 [MtBk b (s.mu d w bq).mt, WBk w d (lastN s.lg) torn, hd, hw, []] _ rfl rfl ⟨d, w, torn, bq, hd, hw, [], hup, rfl, hdk, hw3, IsSl.nil _⟩
     | some c =>
      have hc := (ok.ch r hk).growL hgl
      have hlay := layS_ct ok b d w bq hdk (torn := torn) hk hc
      rw [hrI] at hlay
      repeat' (first | refine go ?_ | refine mv ?_ | refine asg ?_ | refine ex ?_ | refine al (fun _ => ?_) | (refine I.st ?_; refine sGW Cfg.z.enc c.cfg.enc rfl rfl ?_) | fail)
      rename_i b7
      refine W.mixN 8 (List.replicate 13 true) [[(b3, .cells (List.toArray x.enc) 54 (0, 0))], MtBk b (s.mu d w bq).mt] Tryz.mix (by kernel_rfl) ?_
      by_cases hep : x.ep = (s.ch r).ep
      ·obtain rfl : layS s r c = q := by rw [← hq]; unfold caughtS; rw [hgl]; exact (if_pos hep).symm
       repeat' (first | refine go ?_ | refine mv ?_ | (refine I.ld ?_; refine ld rfl ?_) | (refine I.gd ?_; refine gy ?_) | (refine I.fa ?_; refine fa ?_) | (refine I.nc ?_; refine nc ?_) | (refine I.bin ?_; refine cm rfl rfl ?_) | (refine I.pk ?_; refine pT ?_) | (refine I.cond ?_; refine cP ?_) | refine mN ?_ | refine WX.nil ?_ | refine mU ?_ | (refine I.ix ?_; refine iP ?_) | (refine I.ld ?_; first | refine lN (Mt.enc (s.mu d w bq).mt) (.int .i64 (s.ch r).ep) rfl ?_ (hc := by rw [← hrI]; exact ok.epAt hk) | refine lAN c.cfg.enc c.cfg.enc rfl ?_) | fail)
       refine WX.call rfl hlay rfl ?_
       rintro v _ ⟨h', ho, rfl, hdk', hs'⟩
       simp only [List.cons_append, List.nil_append]
       repeat' (first | refine go ?_ | refine asg ?_ | fail)
       exact D.fin1 [MtBk b ((layS s r c).1.mu d w bq).mt, WBk w d (lastN (layS s r c).1.lg) torn, h', hw, ho] _ rfl rfl ⟨d, w, torn, bq, h', hw, ho, hup, rfl, hdk', hw3, hs'⟩
      ·obtain rfl : (s, []) = q := by rw [← hq]; unfold caughtS; rw [hgl]; exact (if_neg hep).symm
       repeat' (first | refine go ?_ | refine mv ?_ | (refine I.ld ?_; refine ld rfl ?_) | refine asg ?_ | (refine I.gd ?_; refine gy ?_) | (refine I.fa ?_; refine fa ?_) | (refine I.nc ?_; refine nc ?_) | (refine I.bin ?_; refine cm rfl rfl ?_) | (refine I.pk ?_; refine pT ?_) | (refine I.cond ?_; refine cN ?_) | refine mN ?_ | refine WX.nil ?_ | refine mU ?_ | (refine I.ix ?_; refine iP ?_) | (refine I.ld ?_; refine lN (Mt.enc (s.mu d w bq).mt) (.int .i64 (s.ch r).ep) rfl ?_ (hc := by rw [← hrI]; exact ok.epAt hk)) | fail)
       refine D.nilH ?_
       exact D.fin1 [MtBk b (s.mu d w bq).mt, WBk w d (lastN s.lg) torn, hd, hw, []] _ rfl rfl ⟨d, w, torn, bq, hd, hw, [], hup, rfl, hdk, hw3, IsSl.nil _⟩
    ·have hS : handleS s x = (s, []) := by unfold handleS; rw [if_neg (by rw [hup]; decide), if_neg k1, if_neg (by rw [hnb]; decide), if_neg k10, if_neg k11]
     rw [hS]
     skip
     refine Ct.mk' Tryz.func18 rfl rfl rfl (fun g R => ?_)
     try simp only [List.cons_append]
     simp only [List.nil_append]
     repeat' (first | refine go ?_ | refine asg ?_ | refine bx rfl (fun _ => ?_) | fail)
     rename_i b3
     refine W.mixN 8 (List.replicate 8 true) [[(b3, .cells (List.toArray x.enc) 54 (0, 0))]] Tryz.mix (by kernel_rfl) ?_
     repeat' (first | refine go ?_ | refine mv ?_ | (refine I.ld ?_; refine ld rfl ?_) | refine asg ?_ | (refine I.fa ?_; refine fa ?_) | (refine I.nc ?_; refine nc ?_) | (refine I.bin ?_; refine cm rfl rfl ?_) | (refine I.cond ?_; first | refine cF ?_ | refine cN ?_) | refine mN ?_ | refine WX.nil ?_ | refine mU ?_ | (refine I.un ?_; refine nt ?_) | (refine I.cl ?_; refine WX.callQ rfl hnd rfl ?_) | (refine I.ld ?_; refine lAN (Msg.enc x) (Ad4.enc x.fr) rfl ?_) | fail)
     refine D.nilH ?_
     exact D.fin1 [MtBk b (s.mu d w bq).mt, WBk w d (lastN s.lg) torn, hd, hw, []] _ rfl rfl ⟨d, w, torn, bq, hd, hw, [], hup, rfl, hdk, hw3, IsSl.nil _⟩
theorem mhandle_ct {s : MS} (ok : MsOk s) {b : Nat} {h : Hp} (hm : IsMs s b h) (x : Msg) :
  Ct Tryz.prog 18 [.pointer (some ⟨b, 0, none⟩), .agg (List.toArray x.enc)] [h] (MsPost (handleS s x) b) := by
 cases hup : s.up with
 | false => exact mhandleDn_ct hm hup x
 | true => exact mhandleUp_ct ok hm hup x
end Go.Proofs.YtfcefidmdijjkaaGreat

namespace Go.Proofs.YtfcefidmdijjkaaGreat
open Go Go.Sl
def MS.tick (s : MS) (r : Nat) : MS := s.ww (updF s.wt r (tickL (s.wt r)))
theorem MsOk.tick {s : MS} (ok : MsOk s) (r : Nat) : MsOk (s.tick r) := ok.ww fun i => by
 unfold updF
 split
 ·rename_i h
  subst h
  exact ⟨by unfold tickL; rw [List.length_map]; exact ok.wl i, (ok.wk i).tick⟩
 ·exact ⟨ok.wl i, ok.wk i⟩
def tick1S (s : MS) (r : Nat) : MS × List Msg := match (silL (tickL (s.wt r)) 4).findSome? (dropL (s.ch r)) with
 | some c => layS (s.tick r) r c
 | none => (s.tick r, [])
def tickK (s : MS) : Nat → MS × List Msg
 | 0 => (s, [])
 | k + 1 => ((tick1S (tickK s k).1 k).1, (tickK s k).2 ++ (tick1S (tickK s k).1 k).2)
def tickS (s : MS) : MS × List Msg := if s.up = true then tickK s s.rn else (s, [])
structure SameM (s t : MS) : Prop where
 dcs : t.dcs = s.dcs
 cl : t.cl = s.cl
 rn : t.rn = s.rn
 nn : t.nn = s.nn
 dc : t.dc = s.dc
 up : t.up = s.up
theorem SameM.rfl' (s : MS) : SameM s s := ⟨rfl, rfl, rfl, rfl, rfl, rfl⟩
theorem SameM.lay (s : MS) (r : Nat) (c : Ch) : SameM s (layS s r c).1 := ⟨rfl, rfl, rfl, rfl, rfl, rfl⟩
theorem SameM.trans {a b c : MS} (h : SameM a b) (k : SameM b c) : SameM a c := ⟨k.dcs.trans h.dcs, k.cl.trans h.cl, k.rn.trans h.rn, k.nn.trans h.nn, k.dc.trans h.dc, k.up.trans h.up⟩
theorem SameM.tick1 (s : MS) (r : Nat) : SameM s (tick1S s r).1 := by
 unfold tick1S
 split
 ·exact ⟨rfl, rfl, rfl, rfl, rfl, rfl⟩
 ·exact ⟨rfl, rfl, rfl, rfl, rfl, rfl⟩
theorem SameM.tickK (s : MS) : ∀ k, SameM s (tickK s k).1
 | 0 => SameM.rfl' s
 | k + 1 => (SameM.tickK s k).trans (SameM.tick1 _ _)
theorem lay_len {s : MS} {r : Nat} {c : Ch} : (layS s r c).2.length ≤ s.nn := by
 unfold layS
 simp only []
 split
 ·rw [tells_len]; exact Nat.le_refl _
 ·exact Nat.zero_le _
theorem fsome_ok {xs : List Int} {f : Int → Option Ch} {c : Ch} (h : xs.findSome? f = some c) : ∃ x ∈ xs, f x = some c := List.exists_of_findSome?_eq_some h
theorem fsome_at {xs : List Int} {f : Int → Option Ch} {j : Nat} {q : Int} {c : Ch} (hq : xs[j]? = some q) (hc : f q = some c) (hall : ∀ (i : Nat) (p : Int), i < j → xs[i]? = some p → f p = none) : xs.findSome? f = some c := by
 obtain ⟨h1, h2⟩ := List.getElem?_eq_some_iff.1 hq
 have e : xs = xs.take j ++ q :: xs.drop (j + 1) := by rw [← h2, ← List.drop_eq_getElem_cons h1, List.take_append_drop]
 have hn : (xs.take j).findSome? f = none := by
  rw [List.findSome?_eq_none_iff]
  intro x hx
  obtain ⟨i, hi⟩ := List.mem_iff_getElem?.1 hx
  have hlt := (List.getElem?_eq_some_iff.1 hi).1
  rw [List.length_take] at hlt
  rw [List.getElem?_take, if_pos (by omega)] at hi
  exact hall i x (by omega) hi
 rw [e, List.findSome?_append, hn]
 simp [hc]
theorem fsome_none {xs : List Int} {f : Int → Option Ch} (hall : ∀ (i : Nat) (p : Int), i < xs.length → xs[i]? = some p → f p = none) : xs.findSome? f = none := by
 rw [List.findSome?_eq_none_iff]
 intro x hx
 obtain ⟨i, hi⟩ := List.mem_iff_getElem?.1 hx
 exact hall i x (List.getElem?_eq_some_iff.1 hi).1 hi
theorem MsOk.tick1 {s : MS} (ok : MsOk s) {r : Nat} (hr : r < s.rn) : MsOk (tick1S s r).1 := by
 unfold tick1S
 split
 ·rename_i c hc
  obtain ⟨x, _, hx⟩ := fsome_ok hc
  exact (ok.tick r).lay hr ((ok.ch r hr).dropL hx)
 ·exact ok.tick r
theorem MsOk.tickK {s : MS} (ok : MsOk s) : ∀ k, k ≤ s.rn → MsOk (tickK s k).1
 | 0, _ => ok
 | k + 1, h => (MsOk.tickK ok k (by omega)).tick1 (by rw [(SameM.tickK s k).rn]; omega)
theorem tick1_len {s : MS} {r : Nat} : (tick1S s r).2.length ≤ s.nn := by
 unfold tick1S
 split
 ·exact lay_len
 ·exact Nat.zero_le _
theorem tickK_len {s : MS} : ∀ k, (tickK s k).2.length ≤ s.nn * k
 | 0 => Nat.zero_le _
 | k + 1 => by
  have h1 := tickK_len (s := s) k
  have h2 := tick1_len (s := (tickK s k).1) (r := k)
  rw [(SameM.tickK s k).nn] at h2
  show ((tickK s k).2 ++ (tick1S (tickK s k).1 k).2).length ≤ _
  rw [List.length_append, Nat.mul_succ]; omega
theorem mtickDn_ct {s : MS} {b : Nat} {h : Hp} (hm : IsMs s b h) (hup : s.up = false) :
  Ct Tryz.prog 19 [.pointer (some ⟨b, 0, none⟩)] [h] (MsPost (tickS s) b) := by
 have hm0 := id hm
 rw [show tickS s = (s, []) by unfold tickS; rw [if_neg (by rw [hup]; decide)]]
 rcases hm with ⟨hu, _⟩ | ⟨_, d, hd, rfl, hdk⟩
 ·rw [hup] at hu; cases hu
 refine Ct.mk' Tryz.func19 rfl rfl rfl (fun g R => ?_)
 try simp only [List.cons_append]
 simp only [List.nil_append]
 refine W.flat (H' := [MtBk b (MtD s.dcs s.rn s.nn s.cl s.dc d), hd, R]) (by simp) ?_
 repeat' (first | refine go ?_ | refine mv ?_ | (refine I.ld ?_; refine ld rfl ?_) | refine asg ?_ | (refine I.fa ?_; refine fa ?_) | (refine I.nc ?_; refine nc ?_) | (refine I.cond ?_; refine cT ?_) | (refine I.un ?_; refine nt ?_) | fail)
 refine D.nilH ?_
 exact D.fin1 [MtBk b (MtD s.dcs s.rn s.nn s.cl s.dc d) ++ hd, []] _ rfl rfl ⟨_, [], rfl, hm0, IsSl.nil _⟩
set_option maxRecDepth 4000 in
set_option maxHeartbeats 1000000 in
theorem mtickUp_ct {s : MS} (ok : MsOk s) {b : Nat} {h : Hp} (hm : IsMs s b h) (hup : s.up = true) :
  Ct Tryz.prog 19 [.pointer (some ⟨b, 0, none⟩)] [h] (MsPost (tickS s) b) := by
 have r1 := ok.r1; have r3 := ok.r3; have n4 := ok.n4
 rcases hm with ⟨_, d, w, torn, bq, hd, hw, rfl, hdk, hw3⟩ | ⟨hu, _⟩
 rotate_left
 ·rw [hup] at hu; cases hu
 refine MsPostL.pack ?_
 rw [show tickS s = tickK s s.rn by unfold tickS; rw [if_pos hup]]
 refine Ct.mk' Tryz.func19 rfl rfl rfl (fun g R => ?_)
 try simp only [List.cons_append]
 simp only [List.nil_append]
 repeat' (first | refine go ?_ | refine mv ?_ | (refine I.ld ?_; refine ld rfl ?_) | refine asg ?_ | (refine I.fa ?_; refine fa ?_) | (refine I.nc ?_; refine nc ?_) | (refine I.cond ?_; refine cF ?_) | (refine I.un ?_; refine nt ?_) | fail)
 refine W.nilH ?_
 refine W.hp (H' := [[], MtBk b ((tickK s 0).1.mu d w bq).mt, WBk w d (lastN (tickK s 0).1.lg) torn, hd, hw, R]) rfl ?_
 refine W.loop (α := Nat × Value × Hp × Hp × Hp) (fun x => x.1 ≤ s.rn ∧ IsSl 54 (tickK s x.1).2 x.2.1 x.2.2.1 ∧ IsDk (dk (tickK s x.1).1.lg) d x.2.2.2.1 ∧ W3 WTy bq (tickK s x.1).1.wt x.2.2.2.2)
  (fun x => [(0, .pointer (some ⟨b, 0, none⟩)), (3, x.2.1), (18, .int .i64 (s.rn : Int)), (19, .int .i64 (x.1 : Int))])
  (fun x => [x.2.2.1, MtBk b ((tickK s x.1).1.mu d w bq).mt, WBk w d (lastN (tickK s x.1).1.lg) torn, x.2.2.2.1, x.2.2.2.2, R]) (fun x => s.rn - x.1) (0, .slice none 0 0, [], hd, hw) ⟨Nat.zero_le _, IsSl.nil _, hdk, hw3⟩ (by repeat (first | exact Fsub.nil | refine Fsub.cons rfl ?_)) (Hsub.of_picks inferInstance) ?_
 rintro ⟨k, v, ho, hdd, hww⟩ ⟨hk, hs, hdk2, hw4⟩
 simp only [] at hk hs hdk2 hw4 ⊢
 have okk := MsOk.tickK ok k hk
 have sm := SameM.tickK s k
 have hol := tickK_len (s := s) k
 have hnk : s.nn * k ≤ 4 * 3 := Nat.mul_le_mul n4 (by omega)
 have hT : tickK s (k + 1) = ((tick1S (tickK s k).1 k).1, (tickK s k).2 ++ (tick1S (tickK s k).1 k).2) := rfl
 by_cases hlt : k < s.rn
 ·have hkr : k < (tickK s k).1.rn := by rw [sm.rn]; exact hlt
  have hsn : (tickK s k).1.nn ≤ 4 := by rw [sm.nn]; exact n4
  have hsu : (tickK s k).1.up = true := by rw [sm.up]; exact hup
  generalize hs' : (tickK s k).1 = s' at *
  generalize ho' : (tickK s k).2 = out at *
  have hwk := okk.wk k
  have htl : tickL (s'.wt k) = updF s'.wt k (tickL (s'.wt k)) k := updF_same.symm
  have htlen : (tickL (s'.wt k)).length ≤ 64 := by unfold tickL; rw [List.length_map]; exact hwk.1
  repeat' (first | refine go ?_ | refine mv ?_ | refine asg ?_ | (refine I.fa ?_; refine fa ?_) | (refine I.nc ?_; refine nc ?_) | (refine I.bin ?_; refine cm rfl rfl ?_) | (refine I.cond ?_; refine cP ?_) | (refine I.ix ?_; refine iP ?_) | (refine I.ld ?_; refine lN (Mt.enc (s'.mu d w bq).mt) (.pointer (some ⟨bq k, 0, none⟩)) rfl ?_ (hc := Mt.wAtI (s'.mu d w bq) (by omega))) | fail)
  refine WX.call rfl (W3.ct1 hw4 (r := k) (by omega) (fun y hy => tick_ct hy hwk)) rfl ?_
  rintro _ _ ⟨rfl, hw', rfl, hw5⟩
  simp only [List.cons_append, List.nil_append]
  repeat' (first | refine go ?_ | refine mv ?_ | (refine I.fa ?_; refine fa ?_) | (refine I.nc ?_; refine nc ?_) | (refine I.ix ?_; refine iP ?_) | (refine I.ld ?_; refine lN (Mt.enc (s'.mu d w bq).mt) (.pointer (some ⟨bq k, 0, none⟩)) rfl ?_ (hc := Mt.wAtI (s'.mu d w bq) (by omega))) | fail)
  refine WX.call rfl (W3.ctN hw5 (r := k) (by omega) (fun y hy => silent_ct hy (by rw [← htl]; exact htlen) 4)) rfl ?_
  rintro vq _ ⟨hq, rfl, hsq⟩
  rw [← htl] at hsq
  have hrq := hsq.rs
  obtain ⟨qp, qc, rfl⟩ := hrq.len
  have hql : (silL (tickL (s'.wt k)) 4).length ≤ 64 := Nat.le_trans (silK_len _ _ _) htlen
  generalize hqs : silL (tickL (s'.wt k)) 4 = qs at *
  simp only [List.cons_append, List.nil_append]
  repeat' (first | refine go ?_ | refine mv ?_ | (refine I.bi ?_; refine ln rfl (by assumption) ?_) | fail)
  refine W.loop (α := Nat) (fun j => j ≤ qs.length ∧ ∀ (i : Nat) (p : Int), i < j → qs[i]? = some p → dropL (s'.ch k) p = none)
   (fun j => [(0, .pointer (some ⟨b, 0, none⟩)), (3, v), (4, .int .i64 (k : Int)), (18, .int .i64 (s.rn : Int)), (19, .int .i64 (k : Int)), (35, .slice qp qs.length qc), (36, .int .i64 (qs.length : Int)), (37, .int .i64 (j : Int))])
   (fun _ => [hq, hw', ho, MtBk b (s'.mu d w bq).mt, WBk w d (lastN s'.lg) torn, hdd, R]) (fun j => qs.length - j) 0 ⟨Nat.zero_le _, fun i p hi => absurd hi (Nat.not_lt_zero _)⟩ (by repeat (first | exact Fsub.nil | refine Fsub.cons rfl ?_)) (Hsub.of_picks inferInstance) ?_
  rintro j ⟨hj, hall⟩
  by_cases hjl : j < qs.length
  ·obtain ⟨q, hqj⟩ : ∃ q, qs[j]? = some q := ⟨_, List.getElem?_eq_getElem hjl⟩
   have hdc := drop_ct (okk.ch k hkr) q
   repeat' (first | refine go ?_ | refine mv ?_ | (refine I.ld ?_; refine lE rfl (by assumption) ?_) | refine asg ?_ | (refine I.fa ?_; refine fa ?_) | (refine I.nc ?_; refine nc ?_) | (refine I.bin ?_; refine cm rfl rfl ?_) | (refine I.cond ?_; refine cP ?_) | (refine I.ix ?_; first | refine ix rfl rfl ?_ | refine iP ?_) | refine ex ?_ | refine al (fun _ => ?_) | (refine I.ld ?_; refine lAN (Mt.enc (s'.mu d w bq).mt) (s'.ch k).cfg.enc rfl ?_ (hc := okk.cfg hkr)) | (refine I.cl ?_; refine WX.callQ rfl hdc rfl ?_) | fail)
   cases hdl : dropL (s'.ch k) q with
   | none =>
    repeat' (first | refine go ?_ | refine mv ?_ | refine asg ?_ | (refine I.bin ?_; refine ad ?_) | (refine I.cond ?_; refine cF ?_) | (refine I.st ?_; refine sGW Cfg.z.enc Cfg.z.enc rfl rfl ?_) | fail)
    refine D.round (j + 1) ⟨by omega, fun i p hi hp => ?_⟩ (by omega) (by repeat (first | exact Fsub.nil | refine Fsub.cons rfl ?_)) (Hsub.of_picks inferInstance)
    rcases Nat.lt_or_ge i j with h | h
    ·exact hall i p h hp
    ·obtain rfl : i = j := by omega
     rw [hqj] at hp
     cases hp
     exact hdl
   | some c =>
    have hc := (okk.ch k hkr).dropL hdl
    have h1 : tick1S s' k = layS (s'.tick k) k c := by unfold tick1S; rw [hqs, fsome_at hqj hdl hall]
    have hlay := layS_ct (okk.tick k) b d w bq hdk2 (torn := torn) hkr hc
    change Ct _ _ _ [MtBk b (s'.mu d w bq).mt, WBk w d (lastN s'.lg) torn, hdd] _ at hlay
    rw [h1] at hT
    have e1 : (layS (s'.tick k) k c).1 = (tickK s (k + 1)).1 := by rw [hT]
    have e2 : (tickK s (k + 1)).2 = out ++ (layS (s'.tick k) k c).2 := by rw [hT]
    have hll := lay_len (s := s'.tick k) (r := k) (c := c)
    have hll : (layS (s'.tick k) k c).2.length ≤ 4 := Nat.le_trans hll hsn
    repeat' (first | refine go ?_ | refine mv ?_ | refine asg ?_ | (refine I.cond ?_; refine cT ?_) | (refine I.st ?_; refine sGW Cfg.z.enc c.cfg.enc rfl rfl ?_) | (refine I.ld ?_; refine lAN c.cfg.enc c.cfg.enc rfl ?_) | fail)
    refine WX.call rfl hlay rfl ?_
    rintro v6 _ ⟨h', ho6, rfl, hdk', hs6⟩
    simp only [List.cons_append, List.nil_append]
    refine WX.app rfl rfl hs hs6.rs rfl rfl (by decide) (by omega) rfl (fun v7 h7 hs7 => ?_)
    rw [← e2] at hs7
    rw [e1] at hdk' ⊢
    have hw6 : W3 WTy bq (tickK s (k + 1)).1.wt hw' := by rw [← e1]; exact hw5
    repeat' (first | refine go ?_ | refine mv ?_ | refine asg ?_ | (refine I.bin ?_; refine ad ?_) | refine zY ?_ | fail)
    exact D.round (k + 1, v7, h7, h', hw') ⟨by simp only []; omega, hs7, hdk', hw6⟩ (by simp only []; omega) (by repeat (first | exact Fsub.nil | refine Fsub.cons rfl ?_)) (Hsub.of_picks inferInstance)
  ·obtain rfl : j = qs.length := by omega
   have h1 : tick1S s' k = (s'.tick k, []) := by unfold tick1S; rw [hqs, fsome_none hall]
   rw [h1] at hT
   have e1 : (tickK s (k + 1)).1 = s'.tick k := by rw [hT]
   have e2 : (tickK s (k + 1)).2 = out := by rw [hT]; exact List.append_nil _
   rw [show s'.mu d w bq = (tickK s (k + 1)).1.mu d w bq by rw [e1]; rfl, show lastN s'.lg = lastN (tickK s (k + 1)).1.lg by rw [e1]; rfl]
   repeat' (first | refine go ?_ | refine mv ?_ | (refine I.bin ?_; first | refine cm rfl rfl ?_ | refine ad ?_) | (refine I.cond ?_; refine cN ?_) | fail)
   exact D.round (k + 1, v, ho, hdd, hw') ⟨by simp only []; omega, by rw [e2]; exact hs, by rw [e1]; exact hdk2, by rw [e1]; exact hw5⟩ (by simp only []; omega) (by repeat (first | exact Fsub.nil | refine Fsub.cons rfl ?_)) (Hsub.of_picks inferInstance)
 ·obtain rfl : k = s.rn := by omega
  repeat' (first | refine go ?_ | refine mv ?_ | refine asg ?_ | (refine I.bin ?_; refine cm rfl rfl ?_) | (refine I.cond ?_; refine cN ?_) | fail)
  exact D.fin1 [MtBk b ((tickK s s.rn).1.mu d w bq).mt, WBk w d (lastN (tickK s s.rn).1.lg) torn, hdd, hww, ho] _ rfl rfl ⟨d, w, torn, bq, hdd, hww, ho, by rw [sm.up]; exact hup, rfl, hdk2, hw4, hs⟩
theorem mtick_ct {s : MS} (ok : MsOk s) {b : Nat} {h : Hp} (hm : IsMs s b h) :
  Ct Tryz.prog 19 [.pointer (some ⟨b, 0, none⟩)] [h] (MsPost (tickS s) b) := by
 cases hup : s.up with
 | false => exact mtickDn_ct hm hup
 | true => exact mtickUp_ct ok hm hup
end Go.Proofs.YtfcefidmdijjkaaGreat

namespace Go.Proofs.YtfcefidmdijjkaaGreat
open Go Go.Sl
def crashS (s : MS) : MS := ⟨s.dcs, s.cl, s.rn, s.nn, s.dc, false, s.lg, s.ch, s.wt⟩
def startS (s : MS) : MS := if s.up = true then s else ⟨s.dcs, s.cl, s.rn, s.nn, s.dc, true, s.lg, s.ch, fun _ => List.replicate s.nn 0⟩
theorem wok_zeros {n : Nat} (h : n ≤ 64) : Wok (List.replicate n (0 : Int)) := ⟨by rw [List.length_replicate]; exact h, fun x hx => by rw [List.eq_of_mem_replicate hx]; omega⟩
theorem MsOk.crash {s : MS} (ok : MsOk s) : MsOk (crashS s) := ⟨ok.r1, ok.r3, ok.n1, ok.n4, ok.lg, ok.ch, ok.rep, ok.base, ok.wl, ok.wk⟩
theorem MsOk.start {s : MS} (ok : MsOk s) : MsOk (startS s) := by
 unfold startS
 split
 ·exact ok
 ·exact ⟨ok.r1, ok.r3, ok.n1, ok.n4, ok.lg, ok.ch, ok.rep, ok.base, fun _ => List.length_replicate .., fun _ => wok_zeros (by have := ok.n4; omega)⟩
theorem mcrashS_ct {s : MS} {b : Nat} {h : Hp} (hm : IsMs s b h) :
  Ct Tryz.prog 17 [.pointer (some ⟨b, 0, none⟩)] [h] (fun v H' => v = .tuple #[] ∧ ∃ h', H' = [h'] ∧ IsMs (crashS s) b h') := by
 rcases hm with ⟨hup, d, w, torn, bq, hd, hw, rfl, hdk, hw3⟩ | ⟨hup, d, hd, rfl, hdk⟩
 ·refine Ct.packP ((mcrash_ct b (s.mu d w bq)).frame (F := [WBk w d (lastN s.lg) torn, hd, hw]) (post' := fun v H' => v = .tuple #[] ∧ H' = [MtBk b (MtD s.dcs s.rn s.nn s.cl s.dc d), WBk w d (lastN s.lg) torn, hd, hw]) (fun v H' ⟨h1, h2⟩ => ⟨h1, by rw [h2]; rfl⟩)) (by simp) fun v H' ⟨h1, h2⟩ => ?_
  subst h2
  refine ⟨[MtBk b (MtD s.dcs s.rn s.nn s.cl s.dc d) ++ hd], WBk w d (lastN s.lg) torn ++ hw, ?_, h1, _, rfl, .inr ⟨rfl, d, hd, rfl, hdk⟩⟩
  simp only [List.cons_append, List.nil_append, List.flatten_cons, List.flatten_nil, List.append_nil]
  refine List.Perm.cons _ ?_
  exact List.perm_middle
 ·refine Ct.packP ((crashDn_ct b s.dcs s.rn s.nn s.cl s.dc d).frame (F := [hd]) (post' := fun v H' => v = .tuple #[] ∧ H' = [MtBk b (MtD s.dcs s.rn s.nn s.cl s.dc d), hd]) (fun v H' ⟨h1, h2⟩ => ⟨h1, by rw [h2]; rfl⟩)) (by simp) fun v H' ⟨h1, h2⟩ => ?_
  subst h2
  exact ⟨[MtBk b (MtD s.dcs s.rn s.nn s.cl s.dc d) ++ hd], [], by simp, h1, _, rfl, .inr ⟨rfl, d, hd, rfl, hdk⟩⟩
theorem newN_nat {n : Nat} (h : n ≤ 64) : newN (n : Int) = n := by unfold newN; split <;> (try split) <;> omega
theorem mstartS_ct {s : MS} (ok : MsOk s) {b : Nat} {h : Hp} (hm : IsMs s b h) :
  Ct Tryz.prog 16 [.pointer (some ⟨b, 0, none⟩)] [h] (fun v H' => v = .tuple #[] ∧ ∃ h', H' = [h'] ∧ IsMs (startS s) b h') := by
 have hm0 := id hm
 rcases hm with ⟨hup, d, w, torn, bq, hd, hw, rfl, hdk, hw3⟩ | ⟨hup, d, hd, rfl, hdk⟩
 ·have e : startS s = s := by unfold startS; rw [if_pos hup]
  rw [e]
  exact ((startUp_ct b (s.mu d w bq)).ext (r := WBk w d (lastN s.lg) torn ++ (hd ++ hw))).mono fun v H' ⟨h1, h2⟩ => ⟨h1, _, h2, hm0⟩
 ·have h3 := ok.r3
  have e : startS s = ⟨s.dcs, s.cl, s.rn, s.nn, s.dc, true, s.lg, s.ch, fun _ => List.replicate s.nn 0⟩ := by unfold startS; rw [if_neg (by rw [hup]; decide)]
  rw [e]
  refine Ct.pack (mstart_ct b s.dcs s.rn s.nn s.cl s.dc ok.lg hdk (fun x hx => by have := ok.base x hx; omega)) (by simp) fun v H' ⟨w, bq, h', hw, h1, h2, h3, h4⟩ => ?_
  subst h2
  rw [newN_nat (by have := ok.n4; omega)] at h4
  exact ⟨[MtBk b _ ++ (WBk w d (lastN s.lg) 0 ++ (h' ++ hw))], by simp, h1, _, rfl, .inl ⟨rfl, d, w, 0, bq, h', hw, rfl, h3, h4⟩⟩
def newL (nn : Nat) : Nat → List Lf
 | 0 => []
 | k + 1 => layL (newL nn k) k (firstCh nn).cfg
theorem newL_ok {nn : Nat} (h1 : 1 ≤ nn) (h4 : nn ≤ 4) : ∀ k, k ≤ 3 → MLog (newL nn k) ∧ recs (newL nn k) = (List.range k).map fun (i : Nat) => recE i (firstCh nn).cfg
 | 0, _ => ⟨MLog.nil, rfl⟩
 | k + 1, hk => by
  obtain ⟨g1, g2⟩ := newL_ok h1 h4 k (by omega)
  obtain ⟨_, g4, g5⟩ := lay_log g1 (r := k) (by omega) (Ch.cfgN (first_ok h1 h4)) (room_few g1 (by rw [g2, List.length_map, List.length_range]; omega))
  exact ⟨g4, by show recs (layL (newL nn k) k (firstCh nn).cfg) = _; rw [g5, g2, List.range_succ, List.map_append]; rfl⟩
theorem newL_room {nn : Nat} (h1 : 1 ≤ nn) (h4 : nn ≤ 4) {k : Nat} (hk : k ≤ 3) : roomB (newL nn k) 1 = true :=
 room_few (newL_ok h1 h4 k hk).1 (by rw [(newL_ok h1 h4 k hk).2, List.length_map, List.length_range]; omega)
theorem rep_layL {l : List Lf} (L : MLog l) {r : Nat} (hr : r ≤ 1000) {c : Cfg} (hc : CfgN c) (hrm : roomB l 1 = true) : rep (recs (layL l r c)) = updF (rep (recs l)) r c := by
 obtain ⟨_, _, g5⟩ := lay_log L hr hc hrm
 rw [g5]
 funext i
 rw [rep_lay]
 rfl
theorem rep_newL {nn : Nat} (h1 : 1 ≤ nn) (h4 : nn ≤ 4) {k : Nat} (hk : k ≤ 3) {r : Nat} (hr : r < k) : rep (recs (newL nn k)) r = (firstCh nn).cfg := by
 induction k with
 | zero => omega
 | succ k ih =>
  show rep (recs (layL (newL nn k) k (firstCh nn).cfg)) r = _
  rw [rep_layL (newL_ok h1 h4 k (by omega)).1 (by omega) (Ch.cfgN (first_ok h1 h4)) (newL_room h1 h4 (by omega))]
  unfold updF
  split
  ·rfl
  ·exact ih (by omega) (by omega)
def newS (dcs : Int) (rn nn : Nat) (cl dc : Int) : MS := ⟨dcs, cl, rn, nn, dc, true, newL nn rn, fun _ => firstCh nn, fun _ => List.replicate nn 0⟩
theorem newS_ok {dcs : Int} {rn nn : Nat} {cl dc : Int} (r1 : 1 ≤ rn) (r3 : rn ≤ 3) (n1 : 1 ≤ nn) (n4 : nn ≤ 4) : MsOk (newS dcs rn nn cl dc) := by
 obtain ⟨g1, g2⟩ := newL_ok n1 n4 rn r3
 refine ⟨r1, r3, n1, n4, g1, fun _ _ => first_ok n1 n4, fun r hr => rep_newL n1 n4 r3 hr, fun x hx => ?_, fun _ => List.length_replicate .., fun _ => wok_zeros (by omega)⟩
 have hx : x ∈ recs (newL nn rn) := hx
 rw [g2] at hx
 obtain ⟨i, hi, rfl⟩ := List.mem_map.1 hx
 have := List.mem_range.1 hi
 show (0 : Int) ≤ (i : Int) ∧ (i : Int) < (rn : Int)
 omega
structure OkL (a b c e dc : Int) : Prop where
 h1 : 1 ≤ a ∧ a ≤ 3
 h2 : 1 ≤ b ∧ b ≤ 3
 h3 : 1 ≤ c ∧ c ≤ 4
 h4 : 1 ≤ e ∧ e ≤ 4
 h5 : 0 ≤ dc ∧ dc ≤ a - 1
def LayV (a b c e : Int) : List Value := [.int .i64 a, .int .i64 b, .int .i64 c, .int .i64 e]
theorem mnewBad_ct {a b c e dc : Int} (ha : I64 a) (hbad : ¬ OkL a b c e dc) :
  Ct Tryz.prog 8 [.agg (List.toArray (LayV a b c e)), .int .i64 dc] [] (fun v H' => v = .tuple (List.toArray [.pointer none, .int .i64 1]) ∧ H' = []) := by
 have hbad : ¬ ((1 ≤ a ∧ a ≤ 3) ∧ (1 ≤ b ∧ b ≤ 3) ∧ (1 ≤ c ∧ c ≤ 4) ∧ (1 ≤ e ∧ e ≤ 4) ∧ (0 ≤ dc ∧ dc ≤ a - 1)) := fun ⟨h1, h2, h3, h4, h5⟩ => hbad ⟨h1, h2, h3, h4, h5⟩
 have hba := between_ct a 1 3
 have hbb := between_ct b 1 3
 have hbc := between_ct c 1 4
 have hbe := between_ct e 1 4
 have hbd := between_ct dc 0 (a - 1)
 obtain ⟨i1, i2⟩ := ha
 refine Ct.mk' Tryz.func8 rfl rfl rfl (fun g R => ?_)
 try simp only [List.cons_append]
 simp only [List.nil_append]
 unfold LayV
 repeat' (first | refine go ?_ | refine mv ?_ | (refine I.ld ?_; refine ld rfl ?_) | refine asg ?_ | (refine I.gd ?_; first | refine gy ?_ | refine gn ?_ | refine gS (fun _ => ?_) (fun _ => ?_)) | (refine I.fa ?_; refine fa ?_) | (refine I.bin ?_; refine su ?_) | (refine I.pk ?_; first | refine pT ?_ | refine pF ?_) | (refine I.cond ?_; first | refine cT ?_ | refine cP ?_) | (refine I.un ?_; first | refine nD ?_ | refine nt ?_) | refine bx rfl (fun _ => ?_) | (refine I.cl ?_; first | refine WX.callQ rfl hba rfl ?_ | refine WX.callQ rfl hbb rfl ?_ | refine WX.callQ rfl hbc rfl ?_ | refine WX.callQ rfl hbe rfl ?_ | refine WX.callQ rfl hbd rfl ?_) | fail)
 all_goals first | exact D.fin2 [] _ rfl rfl rfl ⟨rfl, rfl⟩ | skip
set_option maxRecDepth 4000 in
theorem mnewOk_ct {a e dc : Int} {rn nn : Nat} (hok : OkL a rn nn e dc) :
  Ct Tryz.prog 8 [.agg (List.toArray (LayV a rn nn e)), .int .i64 dc] [] (fun v H' => ∃ b h', v = .tuple (List.toArray [.pointer (some ⟨b, 0, none⟩), .int .i64 0]) ∧ H' = [h'] ∧ IsMs (newS a rn nn e dc) b h') := by
 obtain ⟨ha, hb, hc, he, hdc⟩ := hok
 have n1 : 1 ≤ nn := by omega
 have n4 : nn ≤ 4 := by omega
 have hba := between_ct a 1 3
 have hbb := between_ct (rn : Int) 1 3
 have hbc := between_ct (nn : Int) 1 4
 have hbe := between_ct e 1 4
 have hbd := between_ct dc 0 (a - 1)
 have hfc := first_ct n1 n4
 refine Ct.pack (pre := []) (post := fun v H' => ∃ b d w bq hd hw, v = .tuple (List.toArray [.pointer (some ⟨b, 0, none⟩), .int .i64 0]) ∧ H' = [MtBk b ((newS a rn nn e dc).mu d w bq).mt, WBk w d (lastN (newL nn rn)) 0, hd, hw] ∧ IsDk (dk (newL nn rn)) d hd ∧ W3 WTy bq (fun _ => List.replicate nn 0) hw) ?_ rfl ?_
 rotate_left
 ·rintro v H' ⟨b, d, w, bq, hd, hw, h1, rfl, h3, h4⟩
  exact ⟨[MtBk b ((newS a rn nn e dc).mu d w bq).mt ++ (WBk w d (lastN (newL nn rn)) 0 ++ (hd ++ hw))], by simp, b, _, h1, rfl, .inl ⟨rfl, d, w, 0, bq, hd, hw, rfl, h3, h4⟩⟩
 refine Ct.mk' Tryz.func8 rfl rfl rfl (fun g R => ?_)
 try simp only [List.cons_append]
 simp only [List.nil_append]
 unfold LayV
 repeat' (first | refine go ?_ | refine mv ?_ | (refine I.ld ?_; refine ld rfl ?_) | refine asg ?_ | (refine I.gd ?_; first | refine gy ?_ | refine gT ?_ | refine gF ?_) | (refine I.fa ?_; refine fa ?_) | (refine I.bin ?_; refine su ?_) | (refine I.pk ?_; first | refine pT ?_ | refine pF ?_) | (refine I.cond ?_; refine cN ?_) | (refine I.un ?_; refine nD ?_) | refine bx rfl (fun _ => ?_) | (refine I.cl ?_; first | refine WX.callQ rfl hba rfl ?_ | refine WX.callQ rfl hbb rfl ?_ | refine WX.callQ rfl hbc rfl ?_ | refine WX.callQ rfl hbe rfl ?_ | refine WX.callQ rfl hbd rfl ?_) | fail)
 rename_i b2
 refine W.mixN 8 [true, true, false] [[(b2, .cells (List.toArray [.int .i64 a, .int .i64 rn, .int .i64 nn, .int .i64 e]) 23 (0, 0))]] Tryz.mix (by kernel_rfl) ?_
 repeat' (first | refine go ?_ | refine mv ?_ | refine mU ?_ | refine mA ?_ | (refine I.ld ?_; refine lAN [.int .i64 a, .int .i64 rn, .int .i64 nn, .int .i64 e] [.int .i64 a, .int .i64 rn, .int .i64 nn, .int .i64 e] rfl ?_) | fail)
 refine WX.call rfl dnew_ct rfl ?_
 rintro _ _ ⟨d, h0, rfl, rfl, hd0⟩
 have hd0 : IsDk (dk []) d h0 := hd0
 simp only [List.cons_append, List.nil_append]
 repeat' (first | refine go ?_ | refine mv ?_ | refine asg ?_ | refine mN ?_ | refine bx rfl (fun _ => ?_) | (refine I.bd ?_; refine bdN (Mt.enc (MtD a rn nn e dc d)) ?_) | fail)
 rename_i b
 refine WX.call rfl (mstart_ct b a (rn : Int) (nn : Int) e dc MLog.nil hd0 (fun x hx => by simp [recs] at hx)) rfl ?_
 rintro _ _ ⟨w, bq, h1, hw, rfl, rfl, hd1, hw3⟩
 rw [newN_nat (by omega)] at hw3
 simp only [List.cons_append, List.nil_append]
 repeat' (first | refine go ?_ | refine mv ?_ | (refine I.ld ?_; refine ld rfl ?_) | (refine I.fa ?_; refine fa ?_) | fail)
 refine W.hp (H' := [MtBk b (Mu.mt ⟨a, rn, nn, e, dc, d, w, rep (recs (newL nn 0)), bq⟩), WBk w d (lastN (newL nn 0)) 0, h1, hw, [(b2, .cells (List.toArray [.int .i64 a, .int .i64 rn, .int .i64 nn, .int .i64 e]) 23 (0, 0))], R]) rfl ?_
 refine W.loop (α := Nat × Hp) (fun x => x.1 ≤ rn ∧ IsDk (dk (newL nn x.1)) d x.2) (fun x => [(2, .pointer (some ⟨b2, 0, none⟩)), (7, .pointer (some ⟨b, 0, none⟩)), (47, .int .i64 (rn : Int)), (48, .int .i64 (x.1 : Int))])
  (fun x => [MtBk b (Mu.mt ⟨a, rn, nn, e, dc, d, w, rep (recs (newL nn x.1)), bq⟩), WBk w d (lastN (newL nn x.1)) 0, x.2, hw, [(b2, .cells (List.toArray [.int .i64 a, .int .i64 rn, .int .i64 nn, .int .i64 e]) 23 (0, 0))], R]) (fun x => rn - x.1) (0, h1) ⟨Nat.zero_le _, hd1⟩ (by repeat (first | exact Fsub.nil | refine Fsub.cons rfl ?_)) (Hsub.of_picks inferInstance) ?_
 rintro ⟨k, hd⟩ ⟨hk, hdk⟩
 simp only [] at hk hdk ⊢
 by_cases hlt : k < rn
 ·obtain ⟨g1, g2⟩ := newL_ok n1 n4 k (by omega)
  have hrm := newL_room n1 n4 (show k ≤ 3 by omega)
  have hlay := lay_ct b (⟨a, rn, nn, e, dc, d, w, rep (recs (newL nn k)), bq⟩ : Mu) (nn := nn) rfl n4 g1 hdk (torn := 0) (r := k) (by omega) (Ch.cfgN (first_ok n1 n4))
  have hlr : layR (newL nn k) (rep (recs (newL nn k))) dc nn k (firstCh nn).cfg = ⟨newL nn (k + 1), rep (recs (newL nn (k + 1))), tells dc k nn (firstCh nn).cfg⟩ := by
   unfold layR
   rw [if_pos hrm, ← rep_layL g1 (by omega) (Ch.cfgN (first_ok n1 n4)) hrm]
   rfl
  simp only [hlr, Mu.cs] at hlay
  repeat' (first | refine go ?_ | refine mv ?_ | (refine I.ld ?_; refine ld rfl ?_) | refine asg ?_ | (refine I.fa ?_; refine fa ?_) | (refine I.bin ?_; refine cm rfl rfl ?_) | (refine I.cond ?_; refine cP ?_) | refine ex ?_ | refine al (fun _ => ?_) | (refine I.cl ?_; refine WX.callQ rfl hfc rfl ?_) | (refine I.st ?_; refine sGW Cfg.z.enc (firstCh nn).cfg.enc rfl rfl ?_) | (refine I.ld ?_; refine lAN (firstCh nn).cfg.enc (firstCh nn).cfg.enc rfl ?_) | fail)
  refine WX.call rfl hlay rfl ?_
  rintro v _ ⟨h2, ho, rfl, hd2, hs2⟩
  simp only [List.cons_append, List.nil_append]
  repeat' (first | refine go ?_ | refine mv ?_ | (refine I.bin ?_; refine ad ?_) | fail)
  exact D.round (k + 1, h2) ⟨by simp only []; omega, hd2⟩ (by simp only []; omega) (by repeat (first | exact Fsub.nil | refine Fsub.cons rfl ?_)) (Hsub.of_picks inferInstance)
 ·obtain rfl : k = rn := by omega
  repeat' (first | refine go ?_ | refine mv ?_ | refine asg ?_ | (refine I.bin ?_; refine cm rfl rfl ?_) | (refine I.cond ?_; refine cN ?_) | fail)
  refine D.hp (H' := [MtBk b ((newS a k nn e dc).mu d w bq).mt, WBk w d (lastN (newL nn k)) 0, hd, hw, [(b2, .cells (List.toArray [.int .i64 a, .int .i64 k, .int .i64 nn, .int .i64 e]) 23 (0, 0))], R]) rfl ?_
  exact D.fin2 [MtBk b ((newS a k nn e dc).mu d w bq).mt, WBk w d (lastN (newL nn k)) 0, hd, hw] _ rfl rfl rfl ⟨b, d, w, bq, hd, hw, rfl, rfl, hdk, hw3⟩
end Go.Proofs.YtfcefidmdijjkaaGreat

namespace Go.Proofs.YtfcefidmdijjkaaGreat
open Go Go.Sl
section
variable {H : Type} {enc : TypeId × Value → H} {w : World} {t e : Nat} {ag : Bool} {cs : List Value}
theorem rd_col [TU Tryz.prog t (.array 3 e)] [TL Tryz.prog t 3 ag] [TL Tryz.prog e 1 false] [TU Tryz.prog e (.int .i64)] (h : StOk enc Tryz.prog w t cs) : ∃ a b c, cs = [.int .i64 a, .int .i64 b, .int .i64 c] := by
 have hl := h.lenA (k := 3)
 match cs, hl with
 | [c0, c1, c2], _ =>
  obtain ⟨n0, e0, _⟩ := (h.elem (k := 1) 0 (by decide)).int
  obtain ⟨n1, e1, _⟩ := (h.elem (k := 1) 1 (by decide)).int
  obtain ⟨n2, e2, _⟩ := (h.elem (k := 1) 2 (by decide)).int
  cases e0; cases e1; cases e2
  exact ⟨n0, n1, n2, rfl⟩
theorem rd_vec (h : StOk enc Tryz.prog w 49 cs) : ∃ v : V9, cs = v.enc := by
 have hl := h.lenA (k := 9)
 match cs, hl with
 | [c0, c1, c2, c3, c4, c5, c6, c7, c8], _ =>
  obtain ⟨a, b, c, e0⟩ := rd_col (h.elem (k := 3) 0 (by decide))
  obtain ⟨a', b', c', e1⟩ := rd_col (h.elem (k := 3) 1 (by decide))
  obtain ⟨a'', b'', c'', e2⟩ := rd_col (h.elem (k := 3) 2 (by decide))
  cases e0; cases e1; cases e2
  exact ⟨⟨a, b, c, a', b', c', a'', b'', c''⟩, rfl⟩
theorem rd_dot (h : StOk enc Tryz.prog w 44 cs) : ∃ a b c, cs = [.int .i64 a, .int .i64 b, .int .i64 c] := by
 have hl := h.len (i := 0)
 match cs, hl with
 | [c0, c1, c2], _ =>
  obtain ⟨n0, e0, _⟩ := (h.field 0).int
  obtain ⟨n1, e1, _⟩ := (h.field 1).int
  obtain ⟨n2, e2, _⟩ := (h.field 2).int
  cases e0; cases e1; cases e2
  exact ⟨n0, n1, n2, rfl⟩
theorem rd_stamp (h : StOk enc Tryz.prog w 46 cs) : ∃ a b c, cs = [.int .i64 a, .int .i64 b, .int .i64 c] := by
 have hl := h.len (i := 0)
 match cs, hl with
 | [c0, c1, c2], _ =>
  obtain ⟨n0, e0, _⟩ := (h.field 0).int
  obtain ⟨n1, e1, _⟩ := (h.field 1).int
  obtain ⟨n2, e2, _⟩ := (h.field 2).int
  cases e0; cases e1; cases e2
  exact ⟨n0, n1, n2, rfl⟩
theorem rd_mem (h : StOk enc Tryz.prog w 35 cs) : ∃ a b, cs = [.int .i64 a, .int .i64 b] := by
 have hl := h.len (i := 0)
 match cs, hl with
 | [c0, c1], _ =>
  obtain ⟨n0, e0, _⟩ := (h.field 0).int
  obtain ⟨n1, e1, _⟩ := (h.field 1).int
  cases e0; cases e1
  exact ⟨n0, n1, rfl⟩
theorem rd_ent (h : StOk enc Tryz.prog w 51 cs) : ∃ x : Ent, cs = x.enc ∧ x.key.data.toList.length ≤ reachBytes ∧ x.val.data.toList.length ≤ reachBytes := by
 have hl := h.len (i := 0)
 match cs, hl with
 | [c0, c1, c2, c3, c4, c5, c6, c7, c8, c9, c10, c11, c12, c13, c14, c15, c16, c17, c18, c19], _ =>
  have h0 : StOk enc Tryz.prog w 44 [c0, c1, c2] := h.field 0
  have h1 : StOk enc Tryz.prog w 46 [c3, c4, c5] := h.field 1
  obtain ⟨a, b, c, e0⟩ := rd_dot h0
  obtain ⟨a', b', c', e1⟩ := rd_stamp h1
  obtain ⟨key, e2, hk⟩ := (h.field 2).string
  obtain ⟨val, e3, hv⟩ := (h.field 3).string
  obtain ⟨dead, e4⟩ := (h.field 4).bool
  have h5 : StOk enc Tryz.prog w 49 [c9, c10, c11, c12, c13, c14, c15, c16, c17] := h.field 5
  obtain ⟨dp, e5⟩ := rd_vec h5
  obtain ⟨cl, e6, _⟩ := (h.field 6).int
  obtain ⟨op, e7, _⟩ := (h.field 7).int
  cases e0; cases e1; cases e2; cases e3; cases e4; cases e5; cases e6; cases e7
  exact ⟨⟨a, b, c, a', b', c', key, val, dead, dp, cl, op⟩, rfl, hk, hv⟩
theorem rd_fulls [TU Tryz.prog t (.array 4 35)] [TL Tryz.prog t 8 ag] (h : StOk enc Tryz.prog w t cs) : ∃ a b c d : Mem, cs = [.int .i64 a.nd, .int .i64 a.sn, .int .i64 b.nd, .int .i64 b.sn, .int .i64 c.nd, .int .i64 c.sn, .int .i64 d.nd, .int .i64 d.sn] := by
 have hl := h.lenA (k := 8)
 match cs, hl with
 | [c0, c1, c2, c3, c4, c5, c6, c7], _ =>
  obtain ⟨a, b, e0⟩ := rd_mem (h.elem (k := 2) 0 (by decide))
  obtain ⟨a', b', e1⟩ := rd_mem (h.elem (k := 2) 1 (by decide))
  obtain ⟨a'', b'', e2⟩ := rd_mem (h.elem (k := 2) 2 (by decide))
  obtain ⟨a3, b3, e3⟩ := rd_mem (h.elem (k := 2) 3 (by decide))
  cases e0; cases e1; cases e2; cases e3
  exact ⟨⟨a, b⟩, ⟨a', b'⟩, ⟨a'', b''⟩, ⟨a3, b3⟩, rfl⟩
theorem rd_cfg (h : StOk enc Tryz.prog w 38 cs) : ∃ x : Cfg, cs = x.enc := by
 have hl := h.len (i := 0)
 match cs, hl with
 | [c0, c1, c2, c3, c4, c5, c6, c7, c8, c9, c10, c11, c12], _ =>
  obtain ⟨ep, e0, _⟩ := (h.field 0).int
  obtain ⟨n, e1, _⟩ := (h.field 1).int
  obtain ⟨f0, f1, f2, f3, e2⟩ := rd_fulls (h.field 2)
  obtain ⟨jo, e3⟩ := (h.field 3).bool
  have h4 : StOk enc Tryz.prog w 35 [c11, c12] := h.field 4
  obtain ⟨a, b, e4⟩ := rd_mem h4
  cases e0; cases e1; cases e2; cases e3; cases e4
  exact ⟨⟨ep, n, f0, f1, f2, f3, jo, ⟨a, b⟩⟩, rfl⟩
end
theorem cut_at {α : Type} (cs : List α) (a b : Nat) : cs.drop a = (cs.drop a).take b ++ cs.drop (a + b) := by rw [← List.drop_drop, List.take_append_drop]
section
variable {H : Type} {enc : TypeId × Value → H} {w : World} {cs : List Value}
theorem rd_ad4 (h : StOk enc Tryz.prog w 42 cs) : ∃ a : Ad4, cs = a.enc := by
 have hl := h.len (i := 0)
 match cs, hl with
 | [c0, c1, c2, c3], _ =>
  obtain ⟨n0, e0, _⟩ := (h.field 0).int
  obtain ⟨n1, e1, _⟩ := (h.field 1).int
  obtain ⟨n2, e2, _⟩ := (h.field 2).int
  obtain ⟨n3, e3, _⟩ := (h.field 3).int
  cases e0; cases e1; cases e2; cases e3
  exact ⟨⟨n0, n1, n2, n3⟩, rfl⟩
theorem rd_col3 (h : StOk enc Tryz.prog w 52 cs) : ∃ a b c, cs = [.int .i64 a, .int .i64 b, .int .i64 c] := rd_col h
set_option maxRecDepth 100000 in
theorem rd_msg (h : StOk enc Tryz.prog w 54 cs) : ∃ m : Msg, cs = m.enc := by
 have hl : cs.length = 74 := h.len (i := 0)
 obtain ⟨kind, e0, _⟩ := (h.field 0).int
 have h1 : StOk enc Tryz.prog w 42 ((cs.drop 1).take 4) := h.field 1
 obtain ⟨fr, e1⟩ := rd_ad4 h1
 have h2 : StOk enc Tryz.prog w 42 ((cs.drop 5).take 4) := h.field 2
 obtain ⟨to, e2⟩ := rd_ad4 h2
 obtain ⟨ep, e3, _⟩ := (h.field 3).int
 obtain ⟨ix, e4, _⟩ := (h.field 4).int
 obtain ⟨ct, e5, _⟩ := (h.field 5).int
 obtain ⟨op, e6, _⟩ := (h.field 6).int
 obtain ⟨tr, e7, _⟩ := (h.field 7).int
 have h8 : StOk enc Tryz.prog w 38 ((cs.drop 14).take 13) := h.field 8
 obtain ⟨cf, e8⟩ := rd_cfg h8
 have h9 : StOk enc Tryz.prog w 51 ((cs.drop 27).take 20) := h.field 9
 obtain ⟨en, e9, _⟩ := rd_ent h9
 obtain ⟨has, e10⟩ := (h.field 10).bool
 obtain ⟨key, e11, _⟩ := (h.field 11).string
 obtain ⟨val, e12, _⟩ := (h.field 12).string
 obtain ⟨dead, e13⟩ := (h.field 13).bool
 obtain ⟨snap, e14⟩ := (h.field 14).bool
 have h15 : StOk enc Tryz.prog w 49 ((cs.drop 52).take 9) := h.field 15
 obtain ⟨dp, e15⟩ := rd_vec h15
 have h16 : StOk enc Tryz.prog w 49 ((cs.drop 61).take 9) := h.field 16
 obtain ⟨av, e16⟩ := rd_vec h16
 have h17 : StOk enc Tryz.prog w 52 ((cs.drop 70).take 3) := h.field 17
 obtain ⟨c0, c1, c2, e17⟩ := rd_col3 h17
 obtain ⟨code, e18, _⟩ := (h.field 18).int
 have e0 : (cs.drop 0).take 1 = [.int .i64 kind] := e0
 have e3 : (cs.drop 9).take 1 = [.int .i64 ep] := e3
 have e4 : (cs.drop 10).take 1 = [.int .i64 ix] := e4
 have e5 : (cs.drop 11).take 1 = [.int .i64 ct] := e5
 have e6 : (cs.drop 12).take 1 = [.int .i64 op] := e6
 have e7 : (cs.drop 13).take 1 = [.int .i64 tr] := e7
 have e10 : (cs.drop 47).take 1 = [.bool has] := e10
 have e11 : (cs.drop 48).take 1 = [.string key] := e11
 have e12 : (cs.drop 49).take 1 = [.string val] := e12
 have e13 : (cs.drop 50).take 1 = [.bool dead] := e13
 have e14 : (cs.drop 51).take 1 = [.bool snap] := e14
 have e18 : (cs.drop 73).take 1 = [.int .i64 code] := e18
 refine ⟨⟨kind, fr, to, ep, ix, ct, op, tr, cf, en, has, key, val, dead, snap, dp, av, c0, c1, c2, code⟩, ?_⟩
 have a0 := cut_at cs 0 1
 rw [e0] at a0
 have a1 := cut_at cs 1 4
 rw [e1] at a1
 have a2 := cut_at cs 5 4
 rw [e2] at a2
 have a3 := cut_at cs 9 1
 rw [e3] at a3
 have a4 := cut_at cs 10 1
 rw [e4] at a4
 have a5 := cut_at cs 11 1
 rw [e5] at a5
 have a6 := cut_at cs 12 1
 rw [e6] at a6
 have a7 := cut_at cs 13 1
 rw [e7] at a7
 have a8 := cut_at cs 14 13
 rw [e8] at a8
 have a9 := cut_at cs 27 20
 rw [e9] at a9
 have a10 := cut_at cs 47 1
 rw [e10] at a10
 have a11 := cut_at cs 48 1
 rw [e11] at a11
 have a12 := cut_at cs 49 1
 rw [e12] at a12
 have a13 := cut_at cs 50 1
 rw [e13] at a13
 have a14 := cut_at cs 51 1
 rw [e14] at a14
 have a15 := cut_at cs 52 9
 rw [e15] at a15
 have a16 := cut_at cs 61 9
 rw [e16] at a16
 have a17 := cut_at cs 70 3
 rw [e17] at a17
 have a18 := cut_at cs 73 1
 rw [e18] at a18
 rw [show cs.drop (73 + 1) = [] from List.drop_eq_nil_of_le (by omega)] at a18
 rw [List.drop_zero] at a0
 rw [a0, show 0 + 1 = 1 from rfl, a1, show 1 + 4 = 5 from rfl, a2, show 5 + 4 = 9 from rfl, a3, show 9 + 1 = 10 from rfl, a4, show 10 + 1 = 11 from rfl, a5, show 11 + 1 = 12 from rfl, a6, show 12 + 1 = 13 from rfl, a7, show 13 + 1 = 14 from rfl, a8, show 14 + 13 = 27 from rfl, a9, show 27 + 20 = 47 from rfl, a10, show 47 + 1 = 48 from rfl, a11, show 48 + 1 = 49 from rfl, a12, show 49 + 1 = 50 from rfl, a13, show 50 + 1 = 51 from rfl, a14, show 51 + 1 = 52 from rfl, a15, show 52 + 9 = 61 from rfl, a16, show 61 + 9 = 70 from rfl, a17, show 70 + 3 = 73 from rfl, a18]
 rfl
end
structure Ac where
 (k a b n : Int)
 m : Msg
def Ac.enc (x : Ac) : List Value := [.int .i64 x.k, .int .i64 x.a, .int .i64 x.b, .int .i64 x.n] ++ x.m.enc
instance : Enc Ac := ⟨78, Ac.enc, fun _ => rfl, fun _ => rfl, by decide⟩
set_option maxRecDepth 100000 in
theorem rd_ac : RdOk Tryz.prog 56 Ac (fun _ _ => True) := Go.Sl.rd_of fun H enc w cs h => by
 have hl : cs.length = 78 := h.len (i := 0)
 obtain ⟨k, e0, _⟩ := (h.field 0).int
 obtain ⟨a, e1, _⟩ := (h.field 1).int
 obtain ⟨b, e2, _⟩ := (h.field 2).int
 obtain ⟨n, e3, _⟩ := (h.field 3).int
 have h4 : StOk enc Tryz.prog w 54 ((cs.drop 4).take 74) := h.field 4
 obtain ⟨m, e4⟩ := rd_msg h4
 have e0 : (cs.drop 0).take 1 = [.int .i64 k] := e0
 have e1 : (cs.drop 1).take 1 = [.int .i64 a] := e1
 have e2 : (cs.drop 2).take 1 = [.int .i64 b] := e2
 have e3 : (cs.drop 3).take 1 = [.int .i64 n] := e3
 have a0 := cut_at cs 0 1
 have a1 := cut_at cs 1 1
 have a2 := cut_at cs 2 1
 have a3 := cut_at cs 3 1
 have a4 := cut_at cs 4 74
 rw [e0, List.drop_zero] at a0
 rw [e1] at a1
 rw [e2] at a2
 rw [e3] at a3
 rw [e4, show cs.drop (4 + 74) = [] from List.drop_eq_nil_of_le (by omega), List.append_nil] at a4
 refine ⟨⟨k, a, b, n, m⟩, ?_, trivial⟩
 rw [a0, show 0 + 1 = 1 from rfl, a1, show 1 + 1 = 2 from rfl, a2, show 2 + 1 = 3 from rfl, a3, show 3 + 1 = 4 from rfl, a4]
 rfl
end Go.Proofs.YtfcefidmdijjkaaGreat

namespace Go.Proofs.YtfcefidmdijjkaaGreat
open Go Go.Sl
def turnM (a : Ac) (dc : Int) (c : Cfg) : Msg := if a.k = 6 then { Msg.z with kind := 10, fr := ⟨1, dc, a.a, a.b⟩, ep := a.n } else { Msg.z with kind := 11, fr := ⟨1, dc, a.a, a.b⟩, ep := c.ep }
set_option maxRecDepth 4000 in
theorem turned_ct (a : Ac) (dc : Int) (c : Cfg) :
  Ct Tryz.prog 42 [.agg (List.toArray a.enc), .int .i64 dc, .agg (List.toArray c.enc)] [] (fun v H' => v = .agg (List.toArray (turnM a dc c).enc) ∧ H' = []) := by
 refine Ct.mk' Tryz.func42 rfl rfl rfl (fun g R => ?_)
 try simp only [List.cons_append]
 simp only [List.nil_append]
 by_cases h6 : a.k = 6
 ·obtain ⟨x, hx⟩ : ∃ x, x = turnM a dc c := ⟨_, rfl⟩
  rw [← hx]
  rw [show turnM a dc c = _ from if_pos h6] at hx
  subst hx
  repeat' (first | refine go ?_ | refine mv ?_ | (refine I.ld ?_; refine ld rfl ?_) | (refine I.fa ?_; refine fa ?_) | refine bx rfl (fun _ => ?_) | refine al (fun _ => ?_) | (refine I.bd ?_; refine bdN (t := 42) [.int .i64 1, .int .i64 dc, .int .i64 a.a, .int .i64 a.b] ?_ (hf' := by exact rfl)) | fail)
  rename_i b3 b5 b6 b7
  refine WX.hp (H' := [[(b7, .cells (List.toArray Ad4.z.enc) 42 (0, 0))], [(b6, .cells (List.toArray Msg.z.enc) 54 (0, 0))], CfBk b5 c, [(b3, .cells (List.toArray a.enc) 56 (0, 0))], R]) rfl ?_
  repeat' (first | refine go ?_ | (refine I.ld ?_; refine ld rfl ?_) | (refine I.fa ?_; refine fa ?_) | (refine I.bin ?_; refine cm rfl rfl ?_) | (refine I.cond ?_; refine cP ?_) | (refine I.bd ?_; refine bdN (Msg.enc { Msg.z with kind := 10, fr := ⟨1, dc, a.a, a.b⟩, ep := a.n }) ?_) | (refine I.ld ?_; refine lAN (Ad4.enc ⟨1, dc, a.a, a.b⟩) (Ad4.enc ⟨1, dc, a.a, a.b⟩) rfl ?_) | (refine I.st ?_; first | refine sGW Ad4.z.enc (Ad4.enc ⟨1, dc, a.a, a.b⟩) rfl rfl ?_ | refine sGW Msg.z.enc (Msg.enc { Msg.z with kind := 10, fr := ⟨1, dc, a.a, a.b⟩, ep := a.n }) rfl rfl ?_) | fail)
  exact D.finR1 [] _ rfl (.cellA rfl rfl .nil) ⟨rfl, rfl⟩
 ·obtain ⟨x, hx⟩ : ∃ x, x = turnM a dc c := ⟨_, rfl⟩
  rw [← hx]
  rw [show turnM a dc c = _ from if_neg h6] at hx
  subst hx
  repeat' (first | refine go ?_ | refine mv ?_ | (refine I.ld ?_; refine ld rfl ?_) | (refine I.fa ?_; refine fa ?_) | refine bx rfl (fun _ => ?_) | refine al (fun _ => ?_) | (refine I.bd ?_; refine bdN (t := 42) [.int .i64 1, .int .i64 dc, .int .i64 a.a, .int .i64 a.b] ?_ (hf' := by exact rfl)) | fail)
  rename_i b3 b5 b6 b7
  refine WX.hp (H' := [[(b7, .cells (List.toArray Ad4.z.enc) 42 (0, 0))], [(b6, .cells (List.toArray Msg.z.enc) 54 (0, 0))], CfBk b5 c, [(b3, .cells (List.toArray a.enc) 56 (0, 0))], R]) rfl ?_
  repeat' (first | refine go ?_ | (refine I.ld ?_; refine ld rfl ?_) | (refine I.fa ?_; refine fa ?_) | (refine I.bin ?_; refine cm rfl rfl ?_) | (refine I.cond ?_; refine cN ?_) | (refine I.bd ?_; refine bdN (Msg.enc { Msg.z with kind := 11, fr := ⟨1, dc, a.a, a.b⟩, ep := c.ep }) ?_) | (refine I.ld ?_; refine lAN (Ad4.enc ⟨1, dc, a.a, a.b⟩) (Ad4.enc ⟨1, dc, a.a, a.b⟩) rfl ?_) | (refine I.st ?_; first | refine sGW Ad4.z.enc (Ad4.enc ⟨1, dc, a.a, a.b⟩) rfl rfl ?_ | refine sGW Msg.z.enc (Msg.enc { Msg.z with kind := 11, fr := ⟨1, dc, a.a, a.b⟩, ep := c.ep }) rfl rfl ?_) | fail)
  exact D.finR1 [] _ rfl (.cellA rfl rfl .nil) ⟨rfl, rfl⟩
theorem cells_self {ks : List CK} {xs : List Value} (h : cksB ks xs = true) : cellsEq ks xs xs = some true := by
 obtain ⟨b, e, i⟩ := cellsEq_iff h h
 rw [e, i.2 rfl]
theorem lay_ch {s : MS} {r i : Nat} {c : Ch} (h : i ≠ r) : (layS s r c).1.ch i = s.ch i := by
 unfold layS
 simp only []
 split
 ·exact updF_ne h
 ·rfl
theorem tick1_ch {s : MS} {r i : Nat} (h : i ≠ r) : (tick1S s r).1.ch i = s.ch i := by
 unfold tick1S
 split
 ·exact lay_ch (s := s.tick r) h
 ·rfl
theorem SameM.tick (s : MS) : SameM s (tickS s).1 := by
 unfold tickS
 split
 ·exact SameM.tickK s _
 ·exact SameM.rfl' s
theorem SameM.sus (s : MS) (r n : Int) : SameM s (susS s r n).1 := by
 unfold susS
 split
 ·split
  ·exact SameM.lay s _ _
  ·exact SameM.rfl' s
 ·exact SameM.rfl' s
theorem SameM.hello (s : MS) (r : Nat) (n ep : Int) : SameM s (helloS s r n ep).1 := by
 unfold helloS
 split <;> exact ⟨rfl, rfl, rfl, rfl, rfl, rfl⟩
theorem SameM.caught (s : MS) (r : Nat) (ep : Int) : SameM s (caughtS s r ep).1 := by
 unfold caughtS
 split
 ·split <;> exact ⟨rfl, rfl, rfl, rfl, rfl, rfl⟩
 ·exact SameM.rfl' s
theorem SameM.handle (s : MS) (x : Msg) : SameM s (handleS s x).1 := by
 unfold handleS
 repeat' split
 all_goals first | exact SameM.rfl' s | exact SameM.hello s _ _ _ | exact SameM.caught s _ _
theorem nodeB_rg {s : MS} {a : Ad4} (h : nodeB s a = true) : a.rg.toNat < s.rn ∧ 0 ≤ a.rg ∧ 0 ≤ a.nd ∧ a.nd < (s.nn : Int) := by
 have := of_decide_eq_true (show decide _ = true from h)
 omega
theorem MsOk.handle {s : MS} (ok : MsOk s) (x : Msg) : MsOk (handleS s x).1 := by
 unfold handleS
 by_cases hup : s.up = false
 ·rw [if_pos hup]; exact ok
 rw [if_neg hup]
 by_cases h1 : x.kind = 1
 ·rw [if_pos h1]; exact ok
 rw [if_neg h1]
 by_cases hn : nodeB s x.fr = false
 ·rw [if_pos hn]; exact ok
 rw [if_neg hn]
 obtain ⟨hr, -⟩ := nodeB_rg (by simpa using hn)
 by_cases h10 : x.kind = 10
 ·rw [if_pos h10]
  unfold helloS
  split
  ·rename_i c hc
   exact (ok.heard _ _).lay hr ((ok.ch _ hr).addL hc)
  ·exact ok.heard _ _
 rw [if_neg h10]
 by_cases h11 : x.kind = 11
 ·rw [if_pos h11]
  unfold caughtS
  split
  ·rename_i c hc
   split
   ·exact ok.lay hr ((ok.ch _ hr).growL hc)
   ·exact ok
  ·exact ok
 ·rw [if_neg h11]; exact ok
theorem MsOk.tickAll {s : MS} (ok : MsOk s) : MsOk (tickS s).1 := by
 unfold tickS
 split
 ·exact ok.tickK _ (Nat.le_refl _)
 ·exact ok
theorem MsOk.sus {s : MS} (ok : MsOk s) (r n : Int) : MsOk (susS s r n).1 := by
 unfold susS
 split
 ·rename_i h
  split
  ·rename_i c hc
   exact ok.lay (by omega) ((ok.ch _ (by omega)).dropL hc)
  ·exact ok
 ·exact ok
def actT (s : MS) (dc : Int) (a : Ac) : MS × List Msg :=
 if a.k = 2 then tickS s else if a.k = 3 then susS s a.a a.b else if a.k = 4 then (crashS s, []) else if a.k = 5 then (startS s, []) else if a.k = 6 ∨ a.k = 7 then handleS s (turnM a dc (confS s a.a)) else (s, [])
structure SameL (s t : MS) : Prop where
 dcs : t.dcs = s.dcs
 cl : t.cl = s.cl
 rn : t.rn = s.rn
 nn : t.nn = s.nn
 dc : t.dc = s.dc
theorem SameM.l {s t : MS} (h : SameM s t) : SameL s t := ⟨h.dcs, h.cl, h.rn, h.nn, h.dc⟩
theorem SameL.trans {a b c : MS} (h : SameL a b) (k : SameL b c) : SameL a c := ⟨k.dcs.trans h.dcs, k.cl.trans h.cl, k.rn.trans h.rn, k.nn.trans h.nn, k.dc.trans h.dc⟩
theorem start_same (s : MS) : SameL s (startS s) := by
 unfold startS
 split <;> exact ⟨rfl, rfl, rfl, rfl, rfl⟩
theorem actT_same (s : MS) (dc : Int) (a : Ac) : SameL s (actT s dc a).1 := by
 unfold actT
 repeat' split
 all_goals first | exact (SameM.tick s).l | exact (SameM.sus s _ _).l | exact ⟨rfl, rfl, rfl, rfl, rfl⟩ | exact start_same s | exact (SameM.handle s _).l
theorem actT_ok {s : MS} (ok : MsOk s) (dc : Int) (a : Ac) : MsOk (actT s dc a).1 := by
 unfold actT
 repeat' split
 all_goals first | exact ok.tickAll | exact ok.sus _ _ | exact ok.crash | exact ok.start | exact ok.handle _ | exact ok
end Go.Proofs.YtfcefidmdijjkaaGreat

namespace Go.Sl
open Go
section
variable {g : World} {P : Program} {ops : Array Oper} {Q : Exit → Act → World → Prop} {q : Bool} {n d ty : Nat} {pos : String} {af : Array Edge} {rest : List Oper} {L : Fm} {H : HH} {v : Value}
theorem WX.fld {x : Operand} {t f off ft : Nat} {cs : List Value} (hx : ev L x = some (.agg cs.toArray)) [h : TFt P t f off ft] [tl : TL P ft 1 false] (hc : cs[off]? = some v) (hd : Nat.blt d n = true)
  (k : WX q g P ops Q n rest ((d, v) :: L) H) : WX q g P ops Q n (⟨some d, .field t x f, ty, pos, af, none⟩ :: rest) L H :=
 WX.val (fun a ha w _ => by
  obtain ⟨fs, fd, h1, h2, h3, h4⟩ := h.h
  obtain ⟨hl, hv⟩ := List.getElem?_eq_some_iff.1 hc
  obtain ⟨u, hu, hp⟩ := part_at (P := P) (w := w) (t := ft) (off := off) (pre := cs.take off) (mid := [v]) (post := cs.drop (off + 1)) (by rw [tl.a]; rfl) tl.s (fun _ => rfl) (by rw [List.length_take]; omega)
  have e : cs.take off ++ [v] ++ cs.drop (off + 1) = cs := by rw [← hv, List.append_assoc]; show cs.take off ++ (cs[off] :: cs.drop (off + 1)) = cs; rw [← List.drop_eq_getElem_cons hl, List.take_append_drop]
  rw [e] at hu
  have hp : [v] = [u] := by unfold PartAt at hp; rw [tl.a] at hp; exact hp
  cases hp
  have hu' : (part fd.type cs.toArray fd.offset).run P w = .ok v w := by rw [h3, h4]; exact hu
  simp [execOp, ha.ev hx, Instr.field, underlying, h1, h2, asAgg, hu']) hd k
end
end Go.Sl
namespace Go.Proofs.YtfcefidmdijjkaaGreat
open Go Go.Sl
abbrev LBk (b : Nat) (a : Int) (rn nn : Nat) (e : Int) : Hp := [(b, .cells (List.toArray (LayV a rn nn e)) 23 (0, 0))]
theorem layS_room {s : MS} {r : Nat} {c : Ch} (h : roomB s.lg 1 = true) : layS s r c = (⟨s.dcs, s.cl, s.rn, s.nn, s.dc, s.up, layL s.lg r c.cfg, updF s.ch r c, s.wt⟩, tells s.dc r s.nn c.cfg) := by
 unfold layS; simp only [h, if_true]
def ab0 : MS := newS 1 1 2 1 0
def abC1 : Ch := ⟨2, [⟨0, 1⟩], none⟩
def abC2 : Ch := ⟨3, [⟨0, 1⟩], some ⟨1, 3⟩⟩
def abX : Msg := { Msg.z with kind := 10, fr := ⟨1, 0, 0, 1⟩ }
theorem ab0_ok : MsOk ab0 := newS_ok (by decide) (by decide) (by decide) (by decide)
theorem ab_1 : (susS ab0 0 1).2 = [tellM 0 0 0 abC1.cfg, tellM 0 0 1 abC1.cfg] ∧ MsOk (susS ab0 0 1).1 ∧
  (handleS (susS ab0 0 1).1 abX).2 = [tellM 0 0 0 abC2.cfg, tellM 0 0 1 abC2.cfg] ∧ MsOk (handleS (susS ab0 0 1).1 abX).1 ∧
  confS (handleS (susS ab0 0 1).1 abX).1 0 = abC2.cfg ∧ (handleS (susS ab0 0 1).1 abX).1.up = true := by
 have ok0 := ab0_ok
 have hl0 := newL_ok (nn := 2) (by decide) (by decide) 1 (by decide)
 have hr0 : roomB ab0.lg 1 = true := newL_room (nn := 2) (by decide) (by decide) (k := 1) (by decide)
 have e1 : susS ab0 0 1 = layS ab0 0 abC1 := rfl
 have okc1 : ChOk abC1 := (ok0.ch 0 (by decide)).dropL (n := 1) (c' := abC1) rfl
 have ok1 : MsOk (layS ab0 0 abC1).1 := ok0.lay (by decide) okc1
 rw [e1]
 rw [layS_room hr0] at ok1 ⊢
 obtain ⟨_, g2, g3⟩ := lay_log ok0.lg (r := 0) (by decide) (Ch.cfgN okc1) hr0
 have hr1 : roomB (layL ab0.lg 0 abC1.cfg) 1 = true := room_few g2 (by rw [g3, List.length_append]; show (recs (newL 2 1)).length + 1 ≤ 62; rw [hl0.2]; decide)
 generalize hs1 : (⟨ab0.dcs, ab0.cl, ab0.rn, ab0.nn, ab0.dc, ab0.up, layL ab0.lg 0 abC1.cfg, updF ab0.ch 0 abC1, ab0.wt⟩ : MS) = s1 at ok1 ⊢
 have h1up : s1.up = true := by rw [← hs1]; rfl
 have h1rn : s1.rn = 1 := by rw [← hs1]; rfl
 have h1nn : s1.nn = 2 := by rw [← hs1]; rfl
 have h1dc : s1.dc = 0 := by rw [← hs1]; rfl
 have h1ch : s1.ch 0 = abC1 := by rw [← hs1]; rfl
 have h1lg : s1.lg = layL ab0.lg 0 abC1.cfg := by rw [← hs1]
 have hnb : nodeB s1 abX.fr = true := decide_eq_true ⟨h1up, rfl, h1dc.symm, ⟨by decide, by rw [h1rn]; decide⟩, ⟨by decide, by rw [h1nn]; decide⟩⟩
 have e2 : handleS s1 abX = layS (s1.heard 0 1) 0 abC2 := by
  unfold handleS
  rw [if_neg (by rw [h1up]; decide), if_neg (show ¬ abX.kind = 1 by decide), if_neg (by rw [hnb]; decide), if_pos (show abX.kind = 10 from rfl)]
  show helloS s1 0 1 0 = _
  unfold helloS
  rw [h1ch]
  rfl
 have okh := ok1.handle abX
 have hr2 : roomB (s1.heard 0 1).lg 1 = true := by show roomB s1.lg 1 = true; rw [h1lg]; exact hr1
 rw [e2, layS_room hr2] at okh ⊢
 have eL : [tellM 0 0 0 abC2.cfg, tellM 0 0 1 abC2.cfg] = tells 0 0 2 abC2.cfg := rfl
 refine ⟨rfl, ok1, ?_, okh, ?_, h1up⟩
 ·show tells s1.dc 0 s1.nn abC2.cfg = _
  rw [h1dc, h1nn, eL]
 ·unfold confS
  rw [if_pos ⟨h1up, by decide, by show (0 : Int) < (s1.rn : Int); rw [h1rn]; decide⟩]
  rfl
set_option maxRecDepth 40000 in
theorem able_ct : Ct Tryz.prog 7 [] [] (fun r H' => r = .bool true ∧ H' = []) := by
 have hnew := mnewOk_ct (a := 1) (e := 1) (dc := 0) (rn := 1) (nn := 2) ⟨by omega, by omega, by omega, by omega, by omega⟩
 obtain ⟨a1, ok1, a2, ok2, a3, a4⟩ := ab_1
 obtain ⟨l1, e1⟩ : ∃ l, (susS ab0 0 1).2 = l := ⟨_, rfl⟩
 obtain ⟨l2, e2⟩ : ∃ l, (handleS (susS ab0 0 1).1 abX).2 = l := ⟨_, rfl⟩
 have g1 : l1.length = 2 := by rw [← e1, a1]; rfl
 have g2 : l2.length = 2 := by rw [← e2, a2]; rfl
 obtain ⟨m1, g3, g5⟩ : ∃ m1, l1[0]? = some m1 ∧ m1.cf.ep = 2 := ⟨tellM 0 0 0 abC1.cfg, by rw [← e1, a1]; rfl, rfl⟩
 obtain ⟨m2, g4, g6⟩ : ∃ m2, l2[1]? = some m2 ∧ m2.cf.jo = true := ⟨tellM 0 0 1 abC2.cfg, by rw [← e2, a2]; rfl, rfl⟩
 obtain ⟨cc, a3', g7⟩ : ∃ cc : Cfg, confS (handleS (susS ab0 0 1).1 abX).1 0 = cc ∧ cc.ep = 3 := ⟨_, a3, rfl⟩
 clear a1 a2 a3
 have ok0 := ab0_ok
 refine Ct.mk' Tryz.func7 rfl rfl rfl (fun g R => ?_)
 try simp only [List.cons_append]
 simp only [List.nil_append]
 repeat' (first | refine go ?_ | refine asg ?_ | (refine I.bd ?_; refine bdN (t := 23) (LayV 1 ((1 : Nat) : Int) ((2 : Nat) : Int) 1) ?_ (hf' := by exact rfl)) | fail)
 refine WX.call rfl hnew rfl ?_
 rintro _ _ ⟨b, h, rfl, rfl, hm⟩
 simp only [List.cons_append, List.nil_append]
 repeat' (first | refine go ?_ | refine mv ?_ | refine asg ?_ | (refine I.gd ?_; refine gy ?_) | (refine I.bin ?_; first | refine cm rfl rfl ?_ | refine np rfl rfl ?_) | (refine I.pk ?_; refine pF ?_) | (refine I.cond ?_; refine cF ?_) | refine ex ?_ | fail)
 refine WX.call rfl (msus_ct ok0 hm 0 1) rfl ?_
 rintro v3 _ ⟨h1, ho1, rfl, hm1, hs1⟩
 rw [e1] at hs1
 simp only [List.cons_append, List.nil_append]
 repeat' (first | refine go ?_ | refine mv ?_ | refine asg ?_ | (refine I.bd ?_; first | refine bdN (t := 42) [.int .i64 1, .int .i64 0, .int .i64 0, .int .i64 1] ?_ (hf' := by exact rfl) | refine bdN abX.enc ?_) | fail)
 refine WX.call rfl (mhandle_ct ok1 hm1 abX) rfl ?_
 rintro v4 _ ⟨h2, ho2, rfl, hm2, hs2⟩
 rw [e2] at hs2
 have hcf := mconf_ct ok2 hm2 0
 rw [a3'] at hcf
 have hup := mup_ct hm2
 rw [a4] at hup
 have hr1 := hs1.rs
 have hr2 := hs2.rs
 obtain ⟨p1, c1, rfl⟩ := hr1.len
 obtain ⟨p2, c2, rfl⟩ := hr2.len
 clear hs1 hs2 ok0 ok1 ok2 a4 a3' hm hm1 hm2 hnew e1 e2
 simp only [List.cons_append, List.nil_append]
 repeat' (first | refine go ?_ | refine mv ?_ | (refine I.ld ?_; refine lE rfl (by assumption) ?_) | refine asg ?_ | (refine I.gd ?_; first | refine gy ?_ | refine gT ?_) | (refine I.fa ?_; refine fE rfl ?_) | (refine I.bin ?_; refine cm rfl rfl ?_) | (refine I.pk ?_; refine pT ?_) | (refine I.bi ?_; refine ln rfl (by assumption) ?_) | (refine I.ix ?_; refine ix rfl rfl ?_) | fail)
 rw [g6]
 repeat' (first | refine mv ?_ | (refine I.gd ?_; refine gy ?_) | (refine I.cl ?_; refine WX.callQ rfl hcf rfl ?_) | fail)
 refine I.fd ?_
 refine WX.fld rfl (v := .int .i64 cc.ep) rfl rfl ?_
 repeat' (first | refine go ?_ | refine mv ?_ | refine asg ?_ | (refine I.gd ?_; first | refine gy ?_ | refine gT ?_) | (refine I.bin ?_; refine cm rfl rfl ?_) | (refine I.pk ?_; refine pT ?_) | (refine I.cl ?_; refine WX.callQ rfl hup rfl ?_) | fail)
 exact D.fin1 [] _ rfl rfl ⟨by simp, rfl⟩
end Go.Proofs.YtfcefidmdijjkaaGreat

namespace Go.Proofs.YtfcefidmdijjkaaGreat
open Go Go.Sl
structure Lay4 where
 (a b c e : Int)
def Lay4.enc (l : Lay4) : List Value := LayV l.a l.b l.c l.e
instance : Enc Lay4 := ⟨4, Lay4.enc, fun _ => rfl, fun _ => rfl, by decide⟩
theorem rd_lay : RdOk Tryz.prog 23 Lay4 (fun _ l => I64 l.a ∧ I64 l.b ∧ I64 l.c ∧ I64 l.e) := Go.Sl.rd_of fun H enc w cs h => by
 have hl := h.len (i := 0)
 match cs, hl with
 | [c0, c1, c2, c3], _ =>
  obtain ⟨n0, e0, i0⟩ := (h.field 0).int
  obtain ⟨n1, e1, i1⟩ := (h.field 1).int
  obtain ⟨n2, e2, i2⟩ := (h.field 2).int
  obtain ⟨n3, e3, i3⟩ := (h.field 3).int
  cases e0; cases e1; cases e2; cases e3
  exact ⟨⟨n0, n1, n2, n3⟩, rfl, i0, i1, i2, i3⟩
end Go.Proofs.YtfcefidmdijjkaaGreat

namespace Go.Proofs.YtfcefidmdijjkaaGreat
open Go Go.Sl
theorem cfg_at {c : Ch} (h : c.ms.length ≤ 4) {k : Nat} {m : Mem} (hk : c.ms[k]? = some m) : ((c.cfg.enc).drop (0 + 2 + ((k : Nat) : Int).toNat * 2)).take 2 = m.enc := by
 obtain ⟨ep, ms, ln⟩ := c
 simp only [] at h hk
 have hlt := (List.getElem?_eq_some_iff.1 hk).1
 match ms, h with
 | [], _ => simp at hk
 | [a], _ =>
  rcases (by simp at hlt; omega : k = 0) with rfl
  cases hk; rfl
 | [a, a2], _ =>
  rcases (by simp at hlt; omega : k = 0 ∨ k = 1) with rfl | rfl <;> cases hk <;> rfl
 | [a, a2, a3], _ =>
  rcases (by simp at hlt; omega : k = 0 ∨ k = 1 ∨ k = 2) with rfl | rfl | rfl <;> cases hk <;> rfl
 | [a, a2, a3, a4], _ =>
  rcases (by simp at hlt; omega : k = 0 ∨ k = 1 ∨ k = 2 ∨ k = 3) with rfl | rfl | rfl | rfl <;> cases hk <;> rfl
theorem cfg_zat {c : Ch} (h : c.ms.length ≤ 4) {k : Nat} (h1 : c.ms.length ≤ k) (h2 : k < 4) : ((c.cfg.enc).drop (0 + 2 + ((k : Nat) : Int).toNat * 2)).take 2 = Mem.z.enc := by
 obtain ⟨ep, ms, ln⟩ := c
 simp only [] at h h1
 match ms, h with
 | [], _ =>
  rcases (by omega : k = 0 ∨ k = 1 ∨ k = 2 ∨ k = 3) with rfl | rfl | rfl | rfl <;> rfl
 | [a], _ =>
  rcases (by simp at h1; omega : k = 1 ∨ k = 2 ∨ k = 3) with rfl | rfl | rfl <;> rfl
 | [a, a2], _ =>
  rcases (by simp at h1; omega : k = 2 ∨ k = 3) with rfl | rfl <;> rfl
 | [a, a2, a3], _ =>
  rcases (by simp at h1; omega : k = 3) with rfl
  rfl
 | [a, a2, a3, a4], _ => simp at h1; omega
theorem dmembers_ct {c : Ch} (ok : ChOk c) :
  Ct Tryz.prog 135 [.agg (List.toArray c.cfg.enc)] [] (fun r H' => ∃ h', IsSl 35 c.all r h' ∧ H' = [h']) := by
 have h4 := up_l4 ok
 have hn : c.cfg.n = (c.ms.length : Int) := rfl
 refine Ct.mk' Tryz.func135 rfl rfl rfl (fun g R => ?_)
 try simp only [List.cons_append]
 simp only [List.nil_append]
 repeat' (first | refine go ?_ | refine asg ?_ | refine bx rfl (fun _ => ?_) | fail)
 rename_i b
 refine W.nilH ?_
 refine W.loop (α := Nat × Value × Hp) (fun x => x.1 ≤ c.ms.length ∧ IsSl 35 (c.ms.take x.1) x.2.1 x.2.2) (fun x => [(1, .pointer (some ⟨b, 0, none⟩)), (3, x.2.1), (4, .int .i64 (x.1 : Int))]) (fun x => [x.2.2, CfBk b c.cfg, R]) (fun x => c.ms.length - x.1) (0, .slice none 0 0, []) ⟨Nat.zero_le _, IsSl.nil _⟩ (by repeat (first | exact Fsub.nil | refine Fsub.cons rfl ?_)) (Hsub.of_picks inferInstance) ?_
 rintro ⟨k, v, h⟩ ⟨hk, hs⟩
 simp only [] at hk hs ⊢
 by_cases hlt : k < c.ms.length
 ·obtain ⟨m, hm⟩ : ∃ m, c.ms[k]? = some m := ⟨_, List.getElem?_eq_getElem hlt⟩
  have hat := cfg_at h4 hm
  have htl : (c.ms.take k).length ≤ 4 := by rw [List.length_take]; omega
  repeat' (first | refine go ?_ | refine mv ?_ | (refine I.ld ?_; refine ld rfl ?_) | (refine I.gd ?_; first | refine gy ?_ | refine gT ?_) | (refine I.fa ?_; refine fa ?_) | (refine I.bin ?_; refine cm rfl rfl ?_) | (refine I.pk ?_; refine pT ?_) | (refine I.cond ?_; refine cP ?_) | (refine I.ix ?_; refine iP ?_) | (refine I.ld ?_; refine WX.loadA rfl hat rfl rfl ?_) | fail)
  refine I.bs ?_
  refine WX.lit (ys := [m]) rfl rfl rfl rfl rfl rfl (by decide) rfl (fun v2 h2 hs2 => ?_)
  skip
  refine WX.app rfl rfl hs hs2.rs rfl rfl (by decide) (by simp only [List.length_cons, List.length_nil]; omega) rfl (fun v3 h3 hs3 => ?_)
  rw [show c.ms.take k ++ [m] = c.ms.take (k + 1) by rw [List.take_add_one, hm]; rfl] at hs3
  repeat' (first | refine go ?_ | refine mv ?_ | refine asg ?_ | (refine I.bin ?_; refine ad ?_) | fail)
  exact D.round (k + 1, v3, h3) ⟨by simp only []; omega, hs3⟩ (by simp only []; omega) (by repeat (first | exact Fsub.nil | refine Fsub.cons rfl ?_)) (Hsub.of_picks inferInstance)
 ·obtain rfl : k = c.ms.length := by omega
  rw [List.take_length] at hs
  cases hl : c.ln with
  | none =>
   have hj : c.cfg.jo = false := by show c.ln.isSome = false; rw [hl]; rfl
   repeat' (first | refine go ?_ | refine mv ?_ | (refine I.ld ?_; refine ld rfl ?_) | (refine I.gd ?_; first | refine gn ?_ | refine gF ?_) | (refine I.fa ?_; refine fa ?_) | (refine I.bin ?_; refine cm rfl rfl ?_) | (refine I.pk ?_; refine pF ?_) | (refine I.cond ?_; refine cF ?_) | fail)
   rw [hj]
   repeat' (first | refine go ?_ | refine mv ?_ | refine asg ?_ | (refine I.cond ?_; refine cF ?_) | fail)
   exact D.fin1 [h] _ rfl rfl ⟨h, by simpa [Ch.all, hl] using hs, rfl⟩
  | some m =>
   have hj : c.cfg.jo = true := by show c.ln.isSome = true; rw [hl]; rfl
   have hle : c.cfg.le = m := by show c.ln.getD Mem.z = m; rw [hl]; rfl
   repeat' (first | refine go ?_ | refine mv ?_ | (refine I.ld ?_; refine ld rfl ?_) | (refine I.gd ?_; first | refine gn ?_ | refine gF ?_) | (refine I.fa ?_; refine fa ?_) | (refine I.bin ?_; refine cm rfl rfl ?_) | (refine I.pk ?_; refine pF ?_) | (refine I.cond ?_; refine cF ?_) | fail)
   rw [hj]
   repeat' (first | refine go ?_ | refine mv ?_ | (refine I.ld ?_; refine lA rfl ?_) | (refine I.fa ?_; refine fa ?_) | (refine I.cond ?_; refine cT ?_) | fail)
   refine I.bs ?_
   refine WX.lit (ys := [c.cfg.le]) rfl rfl rfl rfl rfl rfl (by decide) rfl (fun v2 h2 hs2 => ?_)
   rw [hle] at hs2
   skip
   refine WX.app rfl rfl hs hs2.rs rfl rfl (by decide) (by simp only [List.length_cons, List.length_nil]; omega) rfl (fun v3 h3 hs3 => ?_)
   repeat' (first | refine go ?_ | refine mv ?_ | refine asg ?_ | fail)
   exact D.fin1 [h3] _ rfl rfl ⟨h3, by simpa [Ch.all, hl] using hs3, rfl⟩
theorem two_apart {c : Ch} (ok : ChOk c) {i k : Nat} {x y : Mem} (hk : k < i) (hx : c.all[k]? = some x) (hy : c.all[i]? = some y) : ¬ x.nd = y.nd := by
 have h := not_seen ok hy
 rw [List.any_eq_false] at h
 have := h x (List.mem_of_getElem? (i := k) (by rw [List.getElem?_take, if_pos hk]; exact hx))
 simpa using this
set_option maxRecDepth 20000 in
theorem dright_ct {c : Ch} (ok : ChOk c) : Ct Tryz.prog 113 [.agg (List.toArray c.cfg.enc)] [] (fun r H' => r = .bool true ∧ H' = []) := by
 have h4 := up_l4 ok
 have hmc := dmembers_ct ok
 have he1 : 1 ≤ c.cfg.ep := ok.e1
 have he2 : c.cfg.ep ≤ 1099511627776 := ok.e2
 have hn1 : 1 ≤ c.cfg.n := by have := ok.l1; show (1 : Int) ≤ (c.ms.length : Int); omega
 have hn4 : c.cfg.n ≤ 4 := by show (c.ms.length : Int) ≤ 4; omega
 have hn : c.cfg.n = (c.ms.length : Int) := rfl
 have hall : c.all.length ≤ 4 := by have := ok.l4; unfold Ch.all; rw [List.length_append]; exact this
 refine Ct.mk' Tryz.func113 rfl rfl rfl (fun g R => ?_)
 try simp only [List.cons_append]
 simp only [List.nil_append]
 repeat' (first | refine go ?_ | refine mv ?_ | (refine I.ld ?_; first | refine ld rfl ?_ | refine lA rfl ?_) | refine asg ?_ | (refine I.gd ?_; first | refine gy ?_ | refine gF ?_) | (refine I.fa ?_; refine fa ?_) | (refine I.bin ?_; refine cm rfl rfl ?_) | (refine I.pk ?_; refine pF ?_) | (refine I.cond ?_; refine cN ?_) | refine bx rfl (fun _ => ?_) | fail)
 rename_i b
 refine WX.call rfl hmc rfl ?_
 rintro v _ ⟨h, hs, rfl⟩
 have hr := hs.rs
 obtain ⟨vp, vc, rfl⟩ := hr.len
 simp only [List.cons_append, List.nil_append]
 repeat' (first | refine go ?_ | refine asg ?_ | fail)
 refine W.loop (α := Nat) (fun k => k ≤ c.all.length) (fun k => [(1, .pointer (some ⟨b, 0, none⟩)), (3, .slice vp c.all.length vc), (4, .int .i64 (k : Int))]) (fun _ => [h, CfBk b c.cfg, R]) (fun k => c.all.length - k) 0 (Nat.zero_le _) (by repeat (first | exact Fsub.nil | refine Fsub.cons rfl ?_)) (Hsub.of_picks inferInstance) ?_
 intro i hi
 by_cases hlt : i < c.all.length
 ·obtain ⟨m, hm⟩ : ∃ m, c.all[i]? = some m := ⟨_, List.getElem?_eq_getElem hlt⟩
  have hrg := ok.rg m (List.mem_of_getElem? hm)
  have hrg : 0 ≤ m.nd ∧ m.nd < 4 ∧ 1 ≤ m.sn ∧ m.sn ≤ c.cfg.ep := hrg
  repeat' (first | refine go ?_ | refine mv ?_ | (refine I.bin ?_; refine cm rfl rfl ?_) | (refine I.cond ?_; refine cP ?_) | (refine I.bi ?_; refine ln rfl (by assumption) ?_) | fail)
  refine W.quiet Tryz.mix (by kernel_rfl) ?_
  repeat' (first | refine go ?_ | refine mv ?_ | (refine I.ld ?_; first | refine ld rfl ?_ | refine lE rfl (by assumption) ?_) | refine asg ?_ | (refine I.gd ?_; first | refine gy ?_ | refine gF ?_) | (refine I.fa ?_; first | refine fa ?_ | refine fE rfl ?_) | (refine I.bin ?_; refine cm rfl rfl ?_) | (refine I.pk ?_; refine pF ?_) | (refine I.cond ?_; refine cN ?_) | (refine I.ix ?_; refine ix rfl rfl ?_) | fail)
  refine W.loop (α := Nat) (fun k => k ≤ i) (fun k => [(1, .pointer (some ⟨b, 0, none⟩)), (3, .slice vp c.all.length vc), (4, .int .i64 (i : Int)), (5, .int .i64 (k : Int))]) (fun _ => [h, CfBk b c.cfg, R]) (fun k => i - k) 0 (Nat.zero_le _) (by repeat (first | exact Fsub.nil | refine Fsub.cons rfl ?_)) (Hsub.of_picks inferInstance) ?_
  intro k hk
  by_cases hlk : k < i
  ·obtain ⟨x, hx⟩ : ∃ x, c.all[k]? = some x := ⟨_, List.getElem?_eq_getElem (by omega)⟩
   have hne := two_apart ok hlk hx hm
   repeat' (first | refine go ?_ | refine mv ?_ | (refine I.bin ?_; refine cm rfl rfl ?_) | (refine I.cond ?_; refine cP ?_) | fail)
   refine W.quiet Tryz.mix (by kernel_rfl) ?_
   repeat' (first | refine go ?_ | refine mv ?_ | (refine I.ld ?_; refine lE rfl (by assumption) ?_) | refine asg ?_ | (refine I.fa ?_; refine fE rfl ?_) | (refine I.bin ?_; first | refine cm rfl rfl ?_ | refine ad ?_) | (refine I.cond ?_; refine cN ?_) | (refine I.ix ?_; refine ix rfl rfl ?_) | fail)
   exact D.round (k + 1) (by omega) (by omega) (by repeat (first | exact Fsub.nil | refine Fsub.cons rfl ?_)) (Hsub.of_picks inferInstance)
  ·obtain rfl : k = i := by omega
   repeat' (first | refine go ?_ | refine mv ?_ | refine asg ?_ | (refine I.bin ?_; first | refine cm rfl rfl ?_ | refine ad ?_) | (refine I.cond ?_; refine cN ?_) | fail)
   exact D.round (k + 1) (by omega) (by omega) (by repeat (first | exact Fsub.nil | refine Fsub.cons rfl ?_)) (Hsub.of_picks inferInstance)
 ·obtain rfl : i = c.all.length := by omega
  repeat' (first | refine go ?_ | refine mv ?_ | (refine I.ld ?_; refine ld rfl ?_) | refine asg ?_ | (refine I.fa ?_; refine fa ?_) | (refine I.bin ?_; refine cm rfl rfl ?_) | (refine I.cond ?_; refine cN ?_) | (refine I.bi ?_; refine ln rfl (by assumption) ?_) | fail)
  refine W.loop (α := Nat) (fun k => c.ms.length ≤ k ∧ k ≤ 4) (fun k => [(1, .pointer (some ⟨b, 0, none⟩)), (6, .int .i64 (k : Int))]) (fun _ => [CfBk b c.cfg, R]) (fun k => 4 - k) c.ms.length ⟨Nat.le_refl _, h4⟩ (by repeat (first | exact Fsub.nil | refine Fsub.cons rfl ?_)) (Hsub.of_picks inferInstance) ?_
  rintro k ⟨hk, hk4⟩
  by_cases hlk : k < 4
  ·have hz := cfg_zat h4 hk hlk
   repeat' (first | refine go ?_ | refine mv ?_ | refine asg ?_ | (refine I.fa ?_; refine fa ?_) | (refine I.bin ?_; first | refine cm rfl rfl ?_ | refine ad ?_) | (refine I.cond ?_; first | refine cF ?_ | refine cP ?_) | (refine I.ix ?_; refine iP ?_) | refine bd ?_ | (refine I.ld ?_; refine WX.loadA rfl hz rfl rfl ?_) | (refine I.bin ?_; refine WX.neqA (b := true) rfl rfl rfl rfl ?_) | fail)
   exact D.round (k + 1) ⟨by omega, by omega⟩ (by omega) (by repeat (first | exact Fsub.nil | refine Fsub.cons rfl ?_)) (Hsub.of_picks inferInstance)
  ·cases hl : c.ln with
   | none =>
    have hj : c.cfg.jo = false := by show c.ln.isSome = false; rw [hl]; rfl
    have hle : c.cfg.le = Mem.z := by show c.ln.getD Mem.z = Mem.z; rw [hl]; rfl
    repeat' (first | refine go ?_ | refine mv ?_ | (refine I.ld ?_; refine ld rfl ?_) | (refine I.fa ?_; refine fa ?_) | (refine I.bin ?_; refine cm rfl rfl ?_) | (refine I.cond ?_; refine cN ?_) | fail)
    rw [hj]
    repeat' (first | refine go ?_ | (refine I.ld ?_; refine lA rfl ?_) | refine asg ?_ | (refine I.gd ?_; refine gy ?_) | (refine I.fa ?_; refine fa ?_) | (refine I.pk ?_; refine pF ?_) | refine bd ?_ | (refine I.bin ?_; refine WX.eqlA (b := true) (xs := Mem.enc c.cfg.le) rfl rfl (by rw [hle]; rfl) rfl ?_) | fail)
    exact D.fin1 [] _ rfl rfl ⟨rfl, rfl⟩
   | some m =>
    have hj : c.cfg.jo = true := by show c.ln.isSome = true; rw [hl]; rfl
    repeat' (first | refine go ?_ | refine mv ?_ | (refine I.ld ?_; refine ld rfl ?_) | (refine I.fa ?_; refine fa ?_) | (refine I.bin ?_; refine cm rfl rfl ?_) | (refine I.cond ?_; refine cN ?_) | fail)
    rw [hj]
    repeat' (first | refine go ?_ | refine asg ?_ | (refine I.gd ?_; refine gn ?_) | (refine I.pk ?_; refine pT ?_) | fail)
    exact D.fin1 [] _ rfl rfl ⟨rfl, rfl⟩
theorem dplace_ct {c : Ch} (ok : ChOk c) (k : Int) : Ct Tryz.prog 114 [.agg (List.toArray c.cfg.enc), .int .i64 k] [] (fun r H' => r = .int .i64 (plc c.all k) ∧ H' = []) := by
 have hall : c.all.length ≤ 4 := by have := ok.l4; unfold Ch.all; rw [List.length_append]; exact this
 have hrc := dright_ct ok
 have hmc := dmembers_ct ok
 refine Ct.mk' Tryz.func114 rfl rfl rfl (fun g R => ?_)
 try simp only [List.cons_append]
 simp only [List.nil_append]
 repeat' (first | refine go ?_ | (refine I.ld ?_; refine lA rfl ?_) | refine asg ?_ | (refine I.cond ?_; refine cF ?_) | (refine I.un ?_; refine nt ?_) | refine bx rfl (fun _ => ?_) | (refine I.cl ?_; refine WX.callQ rfl hrc rfl ?_) | fail)
 rename_i b
 refine WX.call rfl hmc rfl ?_
 rintro v _ ⟨h, hs, rfl⟩
 have hr := hs.rs
 obtain ⟨vp, vc, rfl⟩ := hr.len
 simp only [List.cons_append, List.nil_append]
 repeat' (first | refine go ?_ | refine asg ?_ | fail)
 refine W.loop (α := Nat) (fun j => j ≤ c.all.length ∧ ∀ i p, i < j → c.all[i]? = some p → ¬ p.nd = k) (fun j => [(1, .int .i64 k), (5, .slice vp c.all.length vc), (6, .int .i64 (j : Int))]) (fun _ => [h, R]) (fun j => c.all.length - j) 0 ⟨Nat.zero_le _, fun i p hi => absurd hi (Nat.not_lt_zero _)⟩ (by repeat (first | exact Fsub.nil | refine Fsub.cons rfl ?_)) (Hsub.of_picks inferInstance) ?_
 rintro j ⟨hj, hno⟩
 by_cases hlt : j < c.all.length
 ·obtain ⟨p, hp⟩ : ∃ p, c.all[j]? = some p := ⟨_, List.getElem?_eq_getElem hlt⟩
  by_cases hpk : p.nd = k
  ·have hres := plc_some hp hpk hno
   repeat' (first | refine go ?_ | refine mv ?_ | (refine I.ld ?_; refine lE rfl (by assumption) ?_) | refine asg ?_ | (refine I.fa ?_; refine fE rfl ?_) | (refine I.bin ?_; refine cm rfl rfl ?_) | (refine I.cond ?_; refine cP ?_) | (refine I.bi ?_; refine ln rfl (by assumption) ?_) | (refine I.ix ?_; refine ix rfl rfl ?_) | fail)
   exact D.fin1 [] _ rfl rfl ⟨by rw [hres], rfl⟩
  ·repeat' (first | refine go ?_ | refine mv ?_ | (refine I.ld ?_; refine lE rfl (by assumption) ?_) | refine asg ?_ | (refine I.fa ?_; refine fE rfl ?_) | (refine I.bin ?_; first | refine cm rfl rfl ?_ | refine ad ?_) | (refine I.cond ?_; first | refine cP ?_ | refine cN ?_) | (refine I.bi ?_; refine ln rfl (by assumption) ?_) | (refine I.ix ?_; refine ix rfl rfl ?_) | fail)
   refine D.round (j + 1) ⟨by omega, fun i q hi hq => ?_⟩ (by omega) (by repeat (first | exact Fsub.nil | refine Fsub.cons rfl ?_)) (Hsub.of_picks inferInstance)
   rcases Nat.lt_or_ge i j with h | h
   ·exact hno i q h hq
   ·obtain rfl : i = j := by omega
    rw [hp] at hq
    cases hq
    exact hpk
 ·have hres : plc c.all k = -1 := plc_none (fun x hx => by
   obtain ⟨i, hi⟩ := List.mem_iff_getElem?.1 hx
   have hlt := (List.getElem?_eq_some_iff.1 hi).1
   exact hno i x (by omega) hi)
  repeat' (first | refine go ?_ | refine mv ?_ | refine asg ?_ | (refine I.bin ?_; refine cm rfl rfl ?_) | (refine I.cond ?_; refine cN ?_) | (refine I.bi ?_; refine ln rfl (by assumption) ?_) | fail)
  exact D.fin1 [] _ rfl rfl ⟨by rw [hres], rfl⟩
end Go.Proofs.YtfcefidmdijjkaaGreat

namespace Go.Proofs.YtfcefidmdijjkaaGreat
open Go Go.Sl
theorem dfirst_ct {n : Nat} (h1 : 1 ≤ n) (h4 : n ≤ 4) : Ct Tryz.prog 33 [.int .i64 (n : Int)] [] (fun r H' => r = chRes (some (firstCh n)) ∧ H' = []) := by
 have hz : Cfg.enc (partC n 0) = Cfg.enc ⟨1, (n : Int), Mem.z, Mem.z, Mem.z, Mem.z, false, Mem.z⟩ := rfl
 refine Ct.mk' Tryz.func33 rfl rfl rfl (fun g R => ?_)
 try simp only [List.cons_append]
 simp only [List.nil_append]
 repeat' (first | refine go ?_ | refine mv ?_ | refine asg ?_ | (refine I.gd ?_; first | refine gy ?_ | refine gF ?_) | (refine I.bin ?_; refine cm rfl rfl ?_) | (refine I.pk ?_; refine pF ?_) | (refine I.cond ?_; refine cN ?_) | (refine I.st ?_; refine sG rfl rfl ?_) | refine bd ?_ | refine al (fun _ => ?_) | fail)
 rename_i b2 b4
 refine W.flat (H' := [CfBk b4 (partC n 0), CfBk b2 Cfg.z, R]) rfl ?_
 refine W.loop (α := Nat) (fun k => k ≤ n) (fun k => [(0, .int .i64 (n : Int)), (2, .pointer (some ⟨b2, 0, none⟩)), (3, .bool false), (4, .pointer (some ⟨b4, 0, none⟩)), (5, .int .i64 (k : Int))]) (fun k => [CfBk b4 (partC n k), CfBk b2 Cfg.z, R]) (fun k => n - k) 0 (Nat.zero_le _) (by repeat (first | exact Fsub.nil | refine Fsub.cons rfl ?_)) (Hsub.of_picks inferInstance) ?_
 intro k hk
 by_cases hlt : k < n
 ·rcases (by omega : k = 0 ∨ k = 1 ∨ k = 2 ∨ k = 3) with rfl | rfl | rfl | rfl
  ·repeat' (first | refine go ?_ | refine mv ?_ | refine asg ?_ | (refine I.fa ?_; refine fa ?_) | (refine I.bin ?_; first | refine cm rfl rfl ?_ | refine ad ?_) | (refine I.cond ?_; refine cP ?_) | (refine I.ix ?_; refine iP ?_) | (refine I.st ?_; refine sG rfl rfl ?_) | refine bd ?_ | fail)
   refine D.flat (H' := [CfBk b4 (partC n (0 + 1)), CfBk b2 Cfg.z, R]) rfl ?_
   exact D.round (0 + 1) (by omega) (by omega) (by repeat (first | exact Fsub.nil | refine Fsub.cons rfl ?_)) (Hsub.of_picks inferInstance)
  ·repeat' (first | refine go ?_ | refine mv ?_ | refine asg ?_ | (refine I.fa ?_; refine fa ?_) | (refine I.bin ?_; first | refine cm rfl rfl ?_ | refine ad ?_) | (refine I.cond ?_; refine cP ?_) | (refine I.ix ?_; refine iP ?_) | (refine I.st ?_; refine sG rfl rfl ?_) | refine bd ?_ | fail)
   refine D.flat (H' := [CfBk b4 (partC n (1 + 1)), CfBk b2 Cfg.z, R]) rfl ?_
   exact D.round (1 + 1) (by omega) (by omega) (by repeat (first | exact Fsub.nil | refine Fsub.cons rfl ?_)) (Hsub.of_picks inferInstance)
  ·repeat' (first | refine go ?_ | refine mv ?_ | refine asg ?_ | (refine I.fa ?_; refine fa ?_) | (refine I.bin ?_; first | refine cm rfl rfl ?_ | refine ad ?_) | (refine I.cond ?_; refine cP ?_) | (refine I.ix ?_; refine iP ?_) | (refine I.st ?_; refine sG rfl rfl ?_) | refine bd ?_ | fail)
   refine D.flat (H' := [CfBk b4 (partC n (2 + 1)), CfBk b2 Cfg.z, R]) rfl ?_
   exact D.round (2 + 1) (by omega) (by omega) (by repeat (first | exact Fsub.nil | refine Fsub.cons rfl ?_)) (Hsub.of_picks inferInstance)
  ·repeat' (first | refine go ?_ | refine mv ?_ | refine asg ?_ | (refine I.fa ?_; refine fa ?_) | (refine I.bin ?_; first | refine cm rfl rfl ?_ | refine ad ?_) | (refine I.cond ?_; refine cP ?_) | (refine I.ix ?_; refine iP ?_) | (refine I.st ?_; refine sG rfl rfl ?_) | refine bd ?_ | fail)
   refine D.flat (H' := [CfBk b4 (partC n (3 + 1)), CfBk b2 Cfg.z, R]) rfl ?_
   exact D.round (3 + 1) (by omega) (by omega) (by repeat (first | exact Fsub.nil | refine Fsub.cons rfl ?_)) (Hsub.of_picks inferInstance)
 ·obtain rfl : k = n := by omega
  rw [partC_all h1 h4]
  repeat' (first | refine go ?_ | refine mv ?_ | (refine I.ld ?_; refine lA rfl ?_) | refine asg ?_ | (refine I.bin ?_; refine cm rfl rfl ?_) | (refine I.cond ?_; refine cN ?_) | (refine I.st ?_; refine sG rfl rfl ?_) | fail)
  exact D.finR [] _ rfl (.cellA rfl rfl (.tmp rfl .nil)) rfl ⟨rfl, rfl⟩
theorem plc_neg {ms : List Mem} {k : Int} (h : ∀ p ∈ ms, p.nd ≠ k) : plc ms k = -1 := plc_none h
theorem has_not {c : Ch} {k : Int} (h : c.has k = false) : ∀ p ∈ c.ms, p.nd ≠ k := fun p hp e => by
 rw [Ch.has_iff.2 ⟨p, hp, e⟩] at h; cases h
theorem has_split {c : Ch} {k : Int} (h : c.has k = true) : ∃ pre p post, c.ms = pre ++ p :: post ∧ p.nd = k := by
 obtain ⟨p, hp, e⟩ := Ch.has_iff.1 h
 obtain ⟨pre, post, h2⟩ := List.append_of_mem hp
 exact ⟨pre, p, post, h2, e⟩
theorem plc_nn {ms : List Mem} {k : Int} : -1 ≤ plc ms k := by
 unfold plc; split <;> omega
theorem dwith_ct {c : Ch} (ok : ChOk c) (k : Int) : Ct Tryz.prog 75 [.agg (List.toArray c.cfg.enc), .int .i64 k] [] (fun r H' => r = chRes (addL c k) ∧ H' = []) := by
 have hrc := dright_ct ok
 have hpc := dplace_ct ok k
 have he1 : 1 ≤ c.cfg.ep := ok.e1
 have he2 : c.cfg.ep ≤ 1099511627776 := ok.e2
 have hce : c.cfg.ep = c.ep := rfl
 refine Ct.mk' Tryz.func75 rfl rfl rfl (fun g R => ?_)
 try simp only [List.cons_append]
 simp only [List.nil_append]
 by_cases hmx : c.cfg.ep = 1099511627776
 ·have ha : addL c k = none := by unfold addL; rw [if_pos (.inl hmx)]
  rw [ha]
  repeat' (first | refine go ?_ | refine mv ?_ | (refine I.ld ?_; first | refine ld rfl ?_ | refine lA rfl ?_) | refine asg ?_ | (refine I.gd ?_; first | refine gy ?_ | refine gn ?_ | refine gT ?_) | (refine I.fa ?_; refine fa ?_) | (refine I.bin ?_; refine cm rfl rfl ?_) | (refine I.pk ?_; first | refine pT ?_ | refine pF ?_) | (refine I.cond ?_; refine cT ?_) | (refine I.st ?_; refine sG rfl rfl ?_) | (refine I.un ?_; refine nt ?_) | refine bd ?_ | refine bx rfl (fun _ => ?_) | refine al (fun _ => ?_) | (refine I.cl ?_; refine WX.callQ rfl hrc rfl ?_) | fail)
  exact D.finR [] _ rfl (.cellA rfl rfl (.tmp rfl .nil)) rfl ⟨rfl, rfl⟩
 ·cases hl : c.ln with
  | some m =>
   have hj : c.cfg.jo = true := by show c.ln.isSome = true; rw [hl]; rfl
   have ha : addL c k = none := by unfold addL; rw [if_pos (.inr (.inl (by rw [hl]; rfl)))]
   rw [ha]
   repeat' (first | refine go ?_ | refine mv ?_ | (refine I.ld ?_; first | refine ld rfl ?_ | refine lA rfl ?_) | refine asg ?_ | (refine I.gd ?_; first | refine gy ?_ | refine gF ?_) | (refine I.fa ?_; refine fa ?_) | (refine I.bin ?_; refine cm rfl rfl ?_) | (refine I.pk ?_; refine pF ?_) | (refine I.un ?_; refine nt ?_) | refine bx rfl (fun _ => ?_) | refine al (fun _ => ?_) | (refine I.cl ?_; refine WX.callQ rfl hrc rfl ?_) | fail)
   try rw [hj]
   repeat' (first | refine go ?_ | refine mv ?_ | refine asg ?_ | (refine I.gd ?_; refine gn ?_) | (refine I.pk ?_; refine pT ?_) | (refine I.cond ?_; refine cT ?_) | (refine I.st ?_; refine sG rfl rfl ?_) | refine bd ?_ | fail)
   exact D.finR [] _ rfl (.cellA rfl rfl (.tmp rfl .nil)) rfl ⟨rfl, rfl⟩
  | none =>
   have hj : c.cfg.jo = false := by show c.ln.isSome = false; rw [hl]; rfl
   have hall : c.all = c.ms := by unfold Ch.all; rw [hl]; exact List.append_nil _
   have hph : decide (0 ≤ plc c.ms k) = c.has k := plc_has
   rw [hall] at hpc
   by_cases hk : 0 ≤ k ∧ k < 4
   ·cases hh : c.has k with
    | true =>
     have ha : addL c k = none := by unfold addL; rw [if_pos (.inr (.inr (.inr (.inr hh))))]
     rw [hh] at hph
     have hp0 : 0 ≤ plc c.ms k := of_decide_eq_true hph
     rw [ha]
     repeat' (first | refine go ?_ | refine mv ?_ | (refine I.ld ?_; first | refine ld rfl ?_ | refine lA rfl ?_) | refine asg ?_ | (refine I.gd ?_; first | refine gy ?_ | refine gF ?_) | (refine I.fa ?_; refine fa ?_) | (refine I.bin ?_; refine cm rfl rfl ?_) | (refine I.pk ?_; refine pF ?_) | (refine I.un ?_; refine nt ?_) | refine bx rfl (fun _ => ?_) | refine al (fun _ => ?_) | (refine I.cl ?_; refine WX.callQ rfl hrc rfl ?_) | fail)
     try rw [hj]
     repeat' (first | refine go ?_ | refine mv ?_ | (refine I.ld ?_; refine lA rfl ?_) | refine asg ?_ | (refine I.gd ?_; first | refine gy ?_ | refine gF ?_) | (refine I.bin ?_; refine cm rfl rfl ?_) | (refine I.pk ?_; refine pF ?_) | (refine I.cond ?_; refine cP ?_) | (refine I.st ?_; refine sG rfl rfl ?_) | refine bd ?_ | (refine I.cl ?_; refine WX.callQ rfl hpc rfl ?_) | fail)
     exact D.finR [] _ rfl (.cellA rfl rfl (.tmp rfl .nil)) rfl ⟨rfl, rfl⟩
    | false =>
     have ha : addL c k = some ⟨c.ep + 1, c.ms, some ⟨k, c.ep + 1⟩⟩ := by
      unfold addL
      rw [if_neg]
      rintro (h | h | h | h | h)
      ·exact hmx h
      ·rw [hl] at h; cases h
      ·omega
      ·omega
      ·rw [hh] at h; cases h
     rw [hh] at hph
     have hp0 : ¬ 0 ≤ plc c.ms k := of_decide_eq_false hph
     rw [ha]
     repeat' (first | refine go ?_ | refine mv ?_ | (refine I.ld ?_; first | refine ld rfl ?_ | refine lA rfl ?_) | refine asg ?_ | (refine I.gd ?_; first | refine gy ?_ | refine gF ?_) | (refine I.fa ?_; refine fa ?_) | (refine I.bin ?_; refine cm rfl rfl ?_) | (refine I.pk ?_; refine pF ?_) | (refine I.un ?_; refine nt ?_) | refine bx rfl (fun _ => ?_) | refine al (fun _ => ?_) | (refine I.cl ?_; refine WX.callQ rfl hrc rfl ?_) | fail)
     try rw [hj]
     repeat' (first | refine go ?_ | refine mv ?_ | (refine I.ld ?_; first | refine ld rfl ?_ | refine lA rfl ?_) | refine asg ?_ | (refine I.gd ?_; first | refine gy ?_ | refine gF ?_) | (refine I.fa ?_; refine fa ?_) | (refine I.bin ?_; first | refine cm rfl rfl ?_ | refine ad ?_) | (refine I.pk ?_; refine pF ?_) | (refine I.cond ?_; refine cN ?_) | (refine I.st ?_; first | refine st rfl rfl ?_ | refine sG rfl rfl ?_) | refine bd ?_ | (refine I.cl ?_; refine WX.callQ rfl hpc rfl ?_) | fail)
     exact D.finR [] _ rfl (.cellA rfl rfl (.tmp rfl .nil)) rfl ⟨rfl, rfl⟩
   ·have ha : addL c k = none := by unfold addL; rw [if_pos (by omega)]
    rw [ha]
    repeat' (first | refine go ?_ | refine mv ?_ | (refine I.ld ?_; first | refine ld rfl ?_ | refine lA rfl ?_) | refine asg ?_ | (refine I.gd ?_; first | refine gy ?_ | refine gF ?_) | (refine I.fa ?_; refine fa ?_) | (refine I.bin ?_; refine cm rfl rfl ?_) | (refine I.pk ?_; refine pF ?_) | (refine I.un ?_; refine nt ?_) | refine bx rfl (fun _ => ?_) | refine al (fun _ => ?_) | (refine I.cl ?_; refine WX.callQ rfl hrc rfl ?_) | fail)
    try rw [hj]
    repeat' (first | refine go ?_ | refine mv ?_ | refine asg ?_ | (refine I.gd ?_; first | refine gy ?_ | refine gn ?_ | refine gT ?_ | refine gS (fun _ => ?_) (fun _ => ?_)) | (refine I.bin ?_; refine cm rfl rfl ?_) | (refine I.pk ?_; first | refine pT ?_ | refine pF ?_) | (refine I.cond ?_; refine cT ?_) | (refine I.st ?_; refine sG rfl rfl ?_) | refine bd ?_ | fail)
    all_goals exact D.finR [] _ rfl (.cellA rfl rfl (.tmp rfl .nil)) rfl ⟨rfl, rfl⟩
theorem dgrow_ct {c : Ch} (ok : ChOk c) : Ct Tryz.prog 76 [.agg (List.toArray c.cfg.enc)] [] (fun r H' => r = chRes (growL c) ∧ H' = []) := by
 have hrc := dright_ct ok
 have he1 : 1 ≤ c.cfg.ep := ok.e1
 have he2 : c.cfg.ep ≤ 1099511627776 := ok.e2
 have h4 := ok.l4
 have h1 := ok.l1
 refine Ct.mk' Tryz.func76 rfl rfl rfl (fun g R => ?_)
 try simp only [List.cons_append]
 simp only [List.nil_append]
 by_cases hmx : c.cfg.ep = 1099511627776
 ·have ha : growL c = none := by unfold growL; rw [if_pos (show c.ep = 1099511627776 from hmx)]
  rw [ha]
  repeat' (first | refine go ?_ | refine mv ?_ | (refine I.ld ?_; first | refine ld rfl ?_ | refine lA rfl ?_) | refine asg ?_ | (refine I.gd ?_; first | refine gy ?_ | refine gn ?_ | refine gT ?_) | (refine I.fa ?_; refine fa ?_) | (refine I.bin ?_; refine cm rfl rfl ?_) | (refine I.pk ?_; first | refine pT ?_ | refine pF ?_) | (refine I.cond ?_; refine cT ?_) | (refine I.st ?_; refine sG rfl rfl ?_) | (refine I.un ?_; refine nt ?_) | refine bd ?_ | refine bx rfl (fun _ => ?_) | refine al (fun _ => ?_) | (refine I.cl ?_; refine WX.callQ rfl hrc rfl ?_) | fail)
  exact D.finR [] _ rfl (.cellA rfl rfl (.tmp rfl .nil)) rfl ⟨rfl, rfl⟩
 ·cases hl : c.ln with
  | none =>
   have hj : c.cfg.jo = false := by show c.ln.isSome = false; rw [hl]; rfl
   have ha : growL c = none := by unfold growL; rw [if_neg (show ¬ c.ep = 1099511627776 from hmx), hl]
   rw [ha]
   repeat' (first | refine go ?_ | refine mv ?_ | (refine I.ld ?_; first | refine ld rfl ?_ | refine lA rfl ?_) | refine asg ?_ | (refine I.gd ?_; first | refine gy ?_ | refine gF ?_) | (refine I.fa ?_; refine fa ?_) | (refine I.bin ?_; refine cm rfl rfl ?_) | (refine I.pk ?_; refine pF ?_) | (refine I.un ?_; refine nt ?_) | refine bx rfl (fun _ => ?_) | refine al (fun _ => ?_) | (refine I.cl ?_; refine WX.callQ rfl hrc rfl ?_) | fail)
   try rw [hj]
   repeat' (first | refine go ?_ | refine asg ?_ | (refine I.cond ?_; refine cT ?_) | (refine I.st ?_; refine sG rfl rfl ?_) | refine bd ?_ | fail)
   exact D.finR [] _ rfl (.cellA rfl rfl (.tmp rfl .nil)) rfl ⟨rfl, rfl⟩
  | some m =>
   have hj : c.cfg.jo = true := by show c.ln.isSome = true; rw [hl]; rfl
   have ha : growL c = some ⟨c.ep + 1, c.ms ++ [m], none⟩ := by unfold growL; rw [if_neg (show ¬ c.ep = 1099511627776 from hmx), hl]
   rw [ha]
   rw [hl] at h4
   simp only [Option.toList, List.length_cons, List.length_nil] at h4
   obtain ⟨ep, ms, ln⟩ := c
   simp only [] at hl h4 h1
   subst hl
   match ms, h1, h4 with
   | [a], _, _ =>
    have hn : (Ch.cfg ⟨ep, [a], some m⟩).n = 1 := rfl
    repeat' (first | refine go ?_ | refine mv ?_ | (refine I.ld ?_; first | refine ld rfl ?_ | refine lA rfl ?_) | refine asg ?_ | (refine I.gd ?_; first | refine gy ?_ | refine gF ?_) | (refine I.fa ?_; refine fa ?_) | (refine I.bin ?_; first | refine cm rfl rfl ?_ | refine ad ?_) | (refine I.pk ?_; refine pF ?_) | (refine I.cond ?_; refine cF ?_) | (refine I.ix ?_; refine iP ?_) | (refine I.st ?_; first | refine st rfl rfl ?_ | refine sG rfl rfl ?_) | (refine I.un ?_; refine nt ?_) | refine bd ?_ | refine bx rfl (fun _ => ?_) | refine al (fun _ => ?_) | (refine I.cl ?_; refine WX.callQ rfl hrc rfl ?_) | fail)
    exact D.finR [] _ rfl (.cellA rfl rfl (.tmp rfl .nil)) rfl ⟨rfl, rfl⟩
   | [a, a2], _, _ =>
    have hn : (Ch.cfg ⟨ep, [a, a2], some m⟩).n = 2 := rfl
    repeat' (first | refine go ?_ | refine mv ?_ | (refine I.ld ?_; first | refine ld rfl ?_ | refine lA rfl ?_) | refine asg ?_ | (refine I.gd ?_; first | refine gy ?_ | refine gF ?_) | (refine I.fa ?_; refine fa ?_) | (refine I.bin ?_; first | refine cm rfl rfl ?_ | refine ad ?_) | (refine I.pk ?_; refine pF ?_) | (refine I.cond ?_; refine cF ?_) | (refine I.ix ?_; refine iP ?_) | (refine I.st ?_; first | refine st rfl rfl ?_ | refine sG rfl rfl ?_) | (refine I.un ?_; refine nt ?_) | refine bd ?_ | refine bx rfl (fun _ => ?_) | refine al (fun _ => ?_) | (refine I.cl ?_; refine WX.callQ rfl hrc rfl ?_) | fail)
    exact D.finR [] _ rfl (.cellA rfl rfl (.tmp rfl .nil)) rfl ⟨rfl, rfl⟩
   | [a, a2, a3], _, _ =>
    have hn : (Ch.cfg ⟨ep, [a, a2, a3], some m⟩).n = 3 := rfl
    repeat' (first | refine go ?_ | refine mv ?_ | (refine I.ld ?_; first | refine ld rfl ?_ | refine lA rfl ?_) | refine asg ?_ | (refine I.gd ?_; first | refine gy ?_ | refine gF ?_) | (refine I.fa ?_; refine fa ?_) | (refine I.bin ?_; first | refine cm rfl rfl ?_ | refine ad ?_) | (refine I.pk ?_; refine pF ?_) | (refine I.cond ?_; refine cF ?_) | (refine I.ix ?_; refine iP ?_) | (refine I.st ?_; first | refine st rfl rfl ?_ | refine sG rfl rfl ?_) | (refine I.un ?_; refine nt ?_) | refine bd ?_ | refine bx rfl (fun _ => ?_) | refine al (fun _ => ?_) | (refine I.cl ?_; refine WX.callQ rfl hrc rfl ?_) | fail)
    exact D.finR [] _ rfl (.cellA rfl rfl (.tmp rfl .nil)) rfl ⟨rfl, rfl⟩
end Go.Proofs.YtfcefidmdijjkaaGreat

namespace Go.Proofs.YtfcefidmdijjkaaGreat
open Go Go.Sl
theorem cfg_set {ep : Int} {ms : List Mem} {ln : Option Mem} (h : ms.length ≤ 4) {i : Nat} (hi : i < ms.length) (m : Mem) : setAt (Ch.cfg ⟨ep, ms, ln⟩).enc (0 + 2 + ((i : Nat) : Int).toNat * 2) m.enc = (Ch.cfg ⟨ep, ms.set i m, ln⟩).enc := by
 match ms, h with
 | [], _ => simp at hi
 | [a], _ =>
  rcases (by simp at hi; omega : i = 0) with rfl
  rfl
 | [a, a2], _ =>
  rcases (by simp at hi; omega : i = 0 ∨ i = 1) with rfl | rfl <;> rfl
 | [a, a2, a3], _ =>
  rcases (by simp at hi; omega : i = 0 ∨ i = 1 ∨ i = 2) with rfl | rfl | rfl <;> rfl
 | [a, a2, a3, a4], _ =>
  rcases (by simp at hi; omega : i = 0 ∨ i = 1 ∨ i = 2 ∨ i = 3) with rfl | rfl | rfl | rfl <;> rfl
theorem cfg_inN {c : Ch} {i : Nat} (hi : i < c.ms.length) (h : c.ms.length ≤ 4) (m : Mem) : Nat.ble (0 + 2 + ((i : Nat) : Int).toNat * 2 + m.enc.length) c.cfg.enc.length = true := Nat.ble_eq_true_of_le (by show 0 + 2 + i * 2 + 2 ≤ 13; omega)
def shl (fl ms : List Mem) (i : Nat) : List Mem := fl.take i ++ ms.drop i
theorem shl_len {fl ms : List Mem} {i : Nat} (h : fl.length + 1 = ms.length) (hi : i ≤ fl.length) : (shl fl ms i).length = ms.length := by
 unfold shl; rw [List.length_append, List.length_take, List.length_drop]; omega
theorem shl_get {fl ms : List Mem} {i : Nat} (h : fl.length + 1 = ms.length) (hi : i < fl.length) : (shl fl ms i)[i + 1]? = ms[i + 1]? := by
 unfold shl
 rw [List.getElem?_append_right (by rw [List.length_take]; omega), List.length_take, Nat.min_eq_left (by omega), List.getElem?_drop]
 congr 1; omega
theorem shl_set {fl ms : List Mem} {i : Nat} {m : Mem} (h : fl.length + 1 = ms.length) (hi : i < fl.length) (hm : fl[i]? = some m) : (shl fl ms i).set i m = shl fl ms (i + 1) := by
 unfold shl
 rw [List.set_append_right _ _ (by rw [List.length_take]; omega), List.length_take, Nat.min_eq_left (by omega), Nat.sub_self, List.drop_eq_getElem_cons (by omega : i < ms.length), List.set_cons_zero, List.take_add_one, hm]
 simp
theorem shl_beg {pre post : List Mem} {p : Mem} : shl (pre ++ post) (pre ++ p :: post) pre.length = pre ++ p :: post := by
 unfold shl
 rw [List.take_append_of_le_length (Nat.le_refl _), List.take_length, List.drop_append_of_le_length (Nat.le_refl _), List.drop_length, List.nil_append]
theorem mid_get {pre post : List Mem} {p : Mem} {i : Nat} (hi : pre.length ≤ i) : (pre ++ post)[i]? = (pre ++ p :: post)[i + 1]? := by
 rw [List.getElem?_append_right hi, List.getElem?_append_right (by omega), show i + 1 - pre.length = (i - pre.length) + 1 by omega, List.getElem?_cons_succ]
theorem plc_at {c : Ch} (ok : ChOk c) {pre post : List Mem} {p : Mem} {k : Int} (e : c.all = pre ++ p :: post) (hk : p.nd = k) : plc c.all k = (pre.length : Int) := (at_node ok.up e hk).1
set_option maxHeartbeats 1000000 in
theorem ddrop_ct {c : Ch} (ok : ChOk c) (k : Int) : Ct Tryz.prog 79 [.agg (List.toArray c.cfg.enc), .int .i64 k] [] (fun r H' => r = chRes (dropL c k) ∧ H' = []) := by
 have h4 := up_l4 ok
 have h1 := ok.l1
 have hpc := dplace_ct ok k
 have he1 : 1 ≤ c.cfg.ep := ok.e1
 have he2 : c.cfg.ep ≤ 1099511627776 := ok.e2
 have hn : c.cfg.n = (c.ms.length : Int) := rfl
 have hpn := plc_nn (ms := c.all) (k := k)
 by_cases hmx : c.cfg.ep = 1099511627776
 ·rw [show dropL c k = none by unfold dropL; rw [if_pos (show c.ep = 1099511627776 from hmx)]]
  by_cases hneg : plc c.all k < 0
  ·skip
   refine Ct.mk' Tryz.func79 rfl rfl rfl (fun g R => ?_)
   try simp only [List.cons_append]
   simp only [List.nil_append]
   repeat' (first | refine go ?_ | refine mv ?_ | (refine I.ld ?_; refine lA rfl ?_) | refine asg ?_ | (refine I.gd ?_; first | refine gn ?_ | refine gu ?_ | refine gT ?_) | (refine I.bin ?_; refine cm rfl rfl ?_) | (refine I.pk ?_; refine pT ?_) | (refine I.cond ?_; refine cT ?_) | (refine I.st ?_; refine sG rfl rfl ?_) | refine bd ?_ | refine bx rfl (fun _ => ?_) | refine al (fun _ => ?_) | (refine I.cl ?_; refine WX.callQ rfl hpc rfl ?_) | fail)
   exact D.finR [] _ rfl (.cellA rfl rfl (.tmp rfl .nil)) rfl ⟨rfl, rfl⟩
  ·skip
   refine Ct.mk' Tryz.func79 rfl rfl rfl (fun g R => ?_)
   try simp only [List.cons_append]
   simp only [List.nil_append]
   repeat' (first | refine go ?_ | refine mv ?_ | (refine I.ld ?_; first | refine ld rfl ?_ | refine lA rfl ?_) | refine asg ?_ | (refine I.gd ?_; first | refine gy ?_ | refine gn ?_ | refine gu ?_ | refine gT ?_ | refine gF ?_) | (refine I.fa ?_; refine fa ?_) | (refine I.bin ?_; refine cm rfl rfl ?_) | (refine I.pk ?_; first | refine pT ?_ | refine pF ?_) | (refine I.cond ?_; refine cT ?_) | (refine I.st ?_; refine sG rfl rfl ?_) | refine bd ?_ | refine bx rfl (fun _ => ?_) | refine al (fun _ => ?_) | (refine I.cl ?_; refine WX.callQ rfl hpc rfl ?_) | fail)
   exact D.finR [] _ rfl (.cellA rfl rfl (.tmp rfl .nil)) rfl ⟨rfl, rfl⟩
 have hmx' : ¬ c.ep = 1099511627776 := hmx
 by_cases hlk : c.ln.any (fun m => m.nd == k) = true
 ·obtain ⟨m, hl, hmk⟩ : ∃ m, c.ln = some m ∧ m.nd = k := by
   cases hl : c.ln with
   | none => rw [hl] at hlk; cases hlk
   | some m => exact ⟨m, rfl, by rw [hl] at hlk; simpa using hlk⟩
  rw [show dropL c k = some ⟨c.ep + 1, c.ms, none⟩ by unfold dropL; rw [if_neg hmx', if_pos hlk]]
  have hp : plc c.all k = (c.ms.length : Int) := plc_at ok (pre := c.ms) (post := []) (by unfold Ch.all; rw [hl]; rfl) hmk
  rw [hp] at hpc
  skip
  refine Ct.mk' Tryz.func79 rfl rfl rfl (fun g R => ?_)
  try simp only [List.cons_append]
  simp only [List.nil_append]
  repeat' (first | refine go ?_ | refine mv ?_ | (refine I.ld ?_; first | refine ld rfl ?_ | refine lA rfl ?_) | refine asg ?_ | (refine I.gd ?_; first | refine gy ?_ | refine gn ?_ | refine gF ?_) | (refine I.fa ?_; refine fa ?_) | (refine I.bin ?_; first | refine cm rfl rfl ?_ | refine ad ?_) | (refine I.pk ?_; refine pF ?_) | (refine I.cond ?_; first | refine cF ?_ | refine cP ?_) | (refine I.st ?_; first | refine st rfl rfl ?_ | refine sG rfl rfl ?_) | refine bd ?_ | refine bx rfl (fun _ => ?_) | refine al (fun _ => ?_) | (refine I.cl ?_; refine WX.callQ rfl hpc rfl ?_) | fail)
  rename_i b2 b4
  refine D.flat (H' := [CfBk b4 (Ch.cfg ⟨c.ep + 1, c.ms, none⟩), CfBk b2 (Ch.cfg ⟨c.ep + 1, c.ms, none⟩), R]) rfl ?_
  exact D.finR [] _ rfl (.cellA rfl rfl (.tmp rfl .nil)) rfl ⟨rfl, rfl⟩
 ·have hlk : c.ln.any (fun m => m.nd == k) = false := by simpa using hlk
  cases hh : c.has k with
  | false =>
   rw [show dropL c k = none by unfold dropL; rw [if_neg hmx', if_neg (by rw [hlk]; decide), if_pos (.inl hh)]]
   have hp : plc c.all k = -1 := plc_neg fun p hp => by
    unfold Ch.all at hp
    rcases List.mem_append.1 hp with h | h
    ·exact has_not hh p h
    ·cases hl : c.ln with
     | none => rw [hl] at h; cases h
     | some m => rw [hl] at h hlk; rw [List.mem_singleton.1 h]; simpa using hlk
   rw [hp] at hpc
   skip
   refine Ct.mk' Tryz.func79 rfl rfl rfl (fun g R => ?_)
   try simp only [List.cons_append]
   simp only [List.nil_append]
   repeat' (first | refine go ?_ | refine mv ?_ | (refine I.ld ?_; refine lA rfl ?_) | refine asg ?_ | (refine I.gd ?_; first | refine gn ?_ | refine gu ?_) | (refine I.bin ?_; refine cm rfl rfl ?_) | (refine I.pk ?_; refine pT ?_) | (refine I.cond ?_; refine cT ?_) | (refine I.st ?_; refine sG rfl rfl ?_) | refine bd ?_ | refine bx rfl (fun _ => ?_) | refine al (fun _ => ?_) | (refine I.cl ?_; refine WX.callQ rfl hpc rfl ?_) | fail)
   exact D.finR [] _ rfl (.cellA rfl rfl (.tmp rfl .nil)) rfl ⟨rfl, rfl⟩
  | true =>
   obtain ⟨pre, p, post, e, hpk⟩ := has_split hh
   obtain ⟨_, hfl⟩ := at_node (up_ms ok) e hpk
   have hp : plc c.all k = (pre.length : Int) := plc_at ok (pre := pre) (post := post ++ c.ln.toList) (by unfold Ch.all; rw [e]; simp) hpk
   rw [hp] at hpc
   have hlen : c.ms.length = pre.length + (post.length + 1) := by rw [e, List.length_append, List.length_cons]
   by_cases h1' : c.ms.length = 1
   ·rw [show dropL c k = none by unfold dropL; rw [if_neg hmx', if_neg (by rw [hlk]; decide), if_pos (.inr h1')]]
    skip
    refine Ct.mk' Tryz.func79 rfl rfl rfl (fun g R => ?_)
    try simp only [List.cons_append]
    simp only [List.nil_append]
    repeat' (first | refine go ?_ | refine mv ?_ | (refine I.ld ?_; first | refine ld rfl ?_ | refine lA rfl ?_) | refine asg ?_ | (refine I.gd ?_; first | refine gy ?_ | refine gT ?_ | refine gF ?_) | (refine I.fa ?_; refine fa ?_) | (refine I.bin ?_; refine cm rfl rfl ?_) | (refine I.pk ?_; first | refine pT ?_ | refine pF ?_) | (refine I.cond ?_; refine cP ?_) | (refine I.st ?_; refine sG rfl rfl ?_) | refine bd ?_ | refine bx rfl (fun _ => ?_) | refine al (fun _ => ?_) | (refine I.cl ?_; refine WX.callQ rfl hpc rfl ?_) | fail)
    exact D.finR [] _ rfl (.cellA rfl rfl (.tmp rfl .nil)) rfl ⟨rfl, rfl⟩
   ·rw [show dropL c k = some ⟨c.ep + 1, pre ++ post, c.ln⟩ by unfold dropL; rw [if_neg hmx', if_neg (by rw [hlk]; decide), if_neg (fun h => h.elim (fun h => by rw [hh] at h; cases h) h1'), hfl]]
    have hbeg : shl (pre ++ post) c.ms pre.length = c.ms := by rw [e]; exact shl_beg
    have hstep : ∀ i, pre.length ≤ i → (pre ++ post)[i]? = c.ms[i + 1]? := fun i hi => by rw [e]; exact mid_get hi
    have hfll : (pre ++ post).length + 1 = c.ms.length := by rw [hlen, List.length_append]; omega
    have hple : pre.length ≤ (pre ++ post).length := by rw [List.length_append]; omega
    skip
    refine Ct.mk' Tryz.func79 rfl rfl rfl (fun g R => ?_)
    try simp only [List.cons_append]
    simp only [List.nil_append]
    repeat' (first | refine go ?_ | refine mv ?_ | (refine I.ld ?_; first | refine ld rfl ?_ | refine lA rfl ?_) | refine asg ?_ | (refine I.gd ?_; first | refine gy ?_ | refine gT ?_ | refine gF ?_) | (refine I.fa ?_; refine fa ?_) | (refine I.bin ?_; first | refine cm rfl rfl ?_ | refine ad ?_) | (refine I.pk ?_; first | refine pT ?_ | refine pF ?_) | (refine I.cond ?_; refine cN ?_) | (refine I.st ?_; refine st rfl rfl ?_) | refine bx rfl (fun _ => ?_) | refine al (fun _ => ?_) | (refine I.cl ?_; refine WX.callQ rfl hpc rfl ?_) | fail)
    rename_i b2 b4
    refine W.flat (H' := [CfBk b4 Cfg.z, CfBk b2 (Ch.cfg ⟨c.ep + 1, shl (pre ++ post) c.ms pre.length, c.ln⟩), R]) (by rw [hbeg]; rfl) ?_
    generalize pre ++ post = fl at *
    refine W.loop (α := Nat) (fun i => pre.length ≤ i ∧ i ≤ fl.length) (fun i => [(2, .pointer (some ⟨b2, 0, none⟩)), (4, .pointer (some ⟨b4, 0, none⟩)), (7, .int .i64 (i : Int))]) (fun i => [CfBk b2 (Ch.cfg ⟨c.ep + 1, shl fl c.ms i, c.ln⟩), CfBk b4 Cfg.z, R]) (fun i => fl.length - i) pre.length ⟨Nat.le_refl _, hple⟩ (by repeat (first | exact Fsub.nil | refine Fsub.cons rfl ?_)) (Hsub.of_picks inferInstance) ?_
    rintro i ⟨hi1, hi2⟩
    have hsl := shl_len hfll hi2
    have hN : (Ch.cfg ⟨c.ep + 1, shl fl c.ms i, c.ln⟩).n = (c.ms.length : Int) := by rw [← hsl]; rfl
    by_cases hlt : i < fl.length
    ·obtain ⟨m, hm⟩ : ∃ m, fl[i]? = some m := ⟨_, List.getElem?_eq_getElem hlt⟩
     have hat := cfg_at (c := ⟨c.ep + 1, shl fl c.ms i, c.ln⟩) (k := i + 1) (by show (shl fl c.ms i).length ≤ 4; omega) (m := m) (by show (shl fl c.ms i)[i + 1]? = some m; rw [shl_get hfll hlt, ← hstep i hi1, hm])
     have hst := cfg_set (ep := c.ep + 1) (ms := shl fl c.ms i) (ln := c.ln) (by omega) (i := i) (by omega) m
     rw [shl_set hfll hlt hm] at hst
     have hin := cfg_inN (c := ⟨c.ep + 1, shl fl c.ms i, c.ln⟩) (i := i) (by show i < (shl fl c.ms i).length; omega) (by show (shl fl c.ms i).length ≤ 4; omega) m
     repeat' (first | refine go ?_ | refine mv ?_ | (refine I.ld ?_; refine ld rfl ?_) | refine asg ?_ | (refine I.fa ?_; refine fa ?_) | (refine I.bin ?_; first | refine cm rfl rfl ?_ | refine ad ?_) | (refine I.cond ?_; refine cP ?_) | (refine I.ix ?_; refine iP ?_) | (refine I.ld ?_; refine WX.loadA rfl hat rfl rfl ?_) | (refine I.st ?_; refine sGN (Ch.cfg ⟨c.ep + 1, shl fl c.ms i, c.ln⟩).enc m.enc (Ch.cfg ⟨c.ep + 1, shl fl c.ms (i + 1), c.ln⟩).enc rfl rfl ?_ (e := hst) (hb := hin)) | fail)
     exact D.round (i + 1) ⟨by omega, by omega⟩ (by omega) (by repeat (first | exact Fsub.nil | refine Fsub.cons rfl ?_)) (Hsub.of_picks inferInstance)
    ·obtain rfl : i = fl.length := by omega
     obtain ⟨x, hx⟩ : ∃ x, shl fl c.ms fl.length = fl ++ [x] := by
      unfold shl
      rw [List.take_length, List.drop_eq_getElem_cons (by omega), List.drop_eq_nil_of_le (by omega)]
      exact ⟨_, rfl⟩
     rw [hx] at hN ⊢
     have hf3 : fl.length ≤ 3 := by omega
     have hf1 : 1 ≤ fl.length := by omega
     clear hstep hfll hple hbeg hx hsl hi2 hlt hi1 hpc hfl
     match fl, hf3, hf1 with
     | [a], _, _ =>
      skip
      repeat' (first | refine go ?_ | refine mv ?_ | (refine I.ld ?_; first | refine ld rfl ?_ | refine lA rfl ?_) | refine asg ?_ | (refine I.fa ?_; refine fa ?_) | (refine I.bin ?_; first | refine cm rfl rfl ?_ | refine ad ?_ | refine su ?_) | (refine I.cond ?_; refine cF ?_) | (refine I.ix ?_; refine iP ?_) | (refine I.st ?_; first | refine st rfl rfl ?_ | refine sG rfl rfl ?_) | refine bd ?_ | fail)
      refine D.flat (H' := [CfBk b2 (Ch.cfg ⟨c.ep + 1, [a], c.ln⟩), CfBk b4 (Ch.cfg ⟨c.ep + 1, [a], c.ln⟩), R]) rfl ?_
      exact D.finR [] _ rfl (.cellA rfl rfl (.tmp rfl .nil)) rfl ⟨rfl, rfl⟩
     | [a, a2], _, _ =>
      skip
      repeat' (first | refine go ?_ | refine mv ?_ | (refine I.ld ?_; first | refine ld rfl ?_ | refine lA rfl ?_) | refine asg ?_ | (refine I.fa ?_; refine fa ?_) | (refine I.bin ?_; first | refine cm rfl rfl ?_ | refine ad ?_ | refine su ?_) | (refine I.cond ?_; refine cF ?_) | (refine I.ix ?_; refine iP ?_) | (refine I.st ?_; first | refine st rfl rfl ?_ | refine sG rfl rfl ?_) | refine bd ?_ | fail)
      refine D.flat (H' := [CfBk b2 (Ch.cfg ⟨c.ep + 1, [a, a2], c.ln⟩), CfBk b4 (Ch.cfg ⟨c.ep + 1, [a, a2], c.ln⟩), R]) rfl ?_
      exact D.finR [] _ rfl (.cellA rfl rfl (.tmp rfl .nil)) rfl ⟨rfl, rfl⟩
     | [a, a2, a3], _, _ =>
      skip
      repeat' (first | refine go ?_ | refine mv ?_ | (refine I.ld ?_; first | refine ld rfl ?_ | refine lA rfl ?_) | refine asg ?_ | (refine I.fa ?_; refine fa ?_) | (refine I.bin ?_; first | refine cm rfl rfl ?_ | refine ad ?_ | refine su ?_) | (refine I.cond ?_; refine cF ?_) | (refine I.ix ?_; refine iP ?_) | (refine I.st ?_; first | refine st rfl rfl ?_ | refine sG rfl rfl ?_) | refine bd ?_ | fail)
      refine D.flat (H' := [CfBk b2 (Ch.cfg ⟨c.ep + 1, [a, a2, a3], c.ln⟩), CfBk b4 (Ch.cfg ⟨c.ep + 1, [a, a2, a3], c.ln⟩), R]) rfl ?_
      exact D.finR [] _ rfl (.cellA rfl rfl (.tmp rfl .nil)) rfl ⟨rfl, rfl⟩
end Go.Proofs.YtfcefidmdijjkaaGreat

namespace Go.Proofs.YtfcefidmdijjkaaGreat
open Go Go.Sl
theorem updF_id {α : Type} {f : Nat → α} {r : Nat} : updF f r (f r) = f := by
 funext i; unfold updF; split
 ·rename_i h; rw [h]
 ·rfl
def Wn (T : Nat) : Nat → (Nat → Nat) → (Nat → List Int) → Hp → Prop
 | 0, _, _, h => h = []
 | k + 1, bq, wt, h => ∃ h1 h2, h = h1 ++ h2 ∧ Wn T k bq wt h1 ∧ WAt T (bq k) (wt k) h2
theorem Wn.upd {T : Nat} {bq : Nat → Nat} {wt : Nat → List Int} {b : Nat} {xs : List Int} : ∀ {k j : Nat} {h : Hp}, k ≤ j → Wn T k bq wt h → Wn T k (updF bq j b) (updF wt j xs) h
 | 0, _, _, _, h => h
 | k + 1, j, _, hk, ⟨h1, h2, e, a, w⟩ => ⟨h1, h2, e, Wn.upd (by omega) a, by rw [updF_ne (by omega), updF_ne (by omega)]; exact w⟩
theorem Wn.at {T : Nat} : ∀ {k : Nat} {bq : Nat → Nat} {wt : Nat → List Int} {h : Hp}, Wn T k bq wt h → ∀ {r : Nat}, r < k →
  ∃ x f, WAt T (bq r) (wt r) x ∧ h.Perm (x ++ f) ∧ ∀ y b' xs, WAt T b' xs y → ∃ h', Wn T k (updF bq r b') (updF wt r xs) h' ∧ (y ++ f).Perm h'
 | 0, _, _, _, _, r, hr => absurd hr (Nat.not_lt_zero _)
 | k + 1, bq, wt, h, ⟨h1, h2, e, a, w⟩, r, hr => by
  subst e
  by_cases hk : r = k
  ·subst hk
   exact ⟨h2, h1, w, List.perm_append_comm, fun y b' xs hy => ⟨h1 ++ y, ⟨h1, y, rfl, a.upd (Nat.le_refl _), by rw [updF_same, updF_same]; exact hy⟩, List.perm_append_comm⟩⟩
  ·obtain ⟨x, f, hx, hp, hb⟩ := Wn.at a (r := r) (by omega)
   refine ⟨x, f ++ h2, hx, by rw [← List.append_assoc]; exact hp.append_right h2, fun y b' xs hy => ?_⟩
   obtain ⟨h', hw', hp'⟩ := hb y b' xs hy
   refine ⟨h' ++ h2, ⟨h', h2, rfl, hw', by rw [updF_ne (by omega), updF_ne (by omega)]; exact w⟩, ?_⟩
   rw [← List.append_assoc]; exact hp'.append_right h2
theorem Wn.ctQ {P : Program} {T n : Nat} {bq : Nat → Nat} {wt : Nat → List Int} {h : Hp} (w : Wn T n bq wt h) {r : Nat} (hr : r < n) {f : FuncId} {args : List Value} {u : Value}
  (k : ∀ x, WAt T (bq r) (wt r) x → Ct P f args [x] (fun v H' => v = u ∧ H' = [x])) : Ct P f args [h] (fun v H' => v = u ∧ H' = [h]) := by
 obtain ⟨x, fr, hx, hp, _⟩ := w.at hr
 have h1 := (k x hx).ext (r := fr)
 refine ⟨fun g R w hw => (h1.calls g R w (hw.perm (by simpa using hp.append_right R))).mono fun e w' ⟨v, H', he, ⟨hv, hH⟩, ho⟩ => ?_⟩
 subst hH
 exact ⟨v, [h], he, ⟨hv, rfl⟩, ho.perm (by simpa using (hp.append_right R).symm)⟩
theorem Wn.ct {P : Program} {T n : Nat} {bq : Nat → Nat} {wt : Nat → List Int} {h : Hp} (w : Wn T n bq wt h) {r : Nat} (hr : r < n) {f : FuncId} {args : List Value} {p : Value → Prop} {i : Hp} {xs : List Int}
  (k : ∀ x, WAt T (bq r) (wt r) x → Ct P f args [x, i] (fun v H' => p v ∧ ∃ y, H' = [y, i] ∧ WAt T (bq r) xs y)) : Ct P f args [h, i] (fun v H' => p v ∧ ∃ h', H' = [h', i] ∧ Wn T n bq (updF wt r xs) h') := by
 obtain ⟨x, fr, hx, hp, hback⟩ := w.at hr
 refine ⟨fun g R w hw => ((k x hx).calls g (fr ++ R) w (hw.perm ?_)).mono fun e w' ⟨v, H', he, ⟨hv, y, hH, hy⟩, ho⟩ => ?_⟩
 ·simp only [List.cons_append, List.nil_append, List.flatten_cons, List.flatten_nil, List.append_nil]
  refine (hp.append_right (i ++ R)).trans ?_
  rw [List.append_assoc]
  refine List.Perm.append_left x ?_
  rw [← List.append_assoc, ← List.append_assoc]
  exact List.Perm.append_right R List.perm_append_comm
 ·subst hH
  obtain ⟨h', hw', hp'⟩ := hback y (bq r) xs hy
  rw [updF_id] at hw'
  refine ⟨v, [h', i], he, ⟨hv, h', rfl, hw'⟩, ho.perm ?_⟩
  simp only [List.cons_append, List.nil_append, List.flatten_cons, List.flatten_nil, List.append_nil]
  refine List.Perm.trans ?_ (hp'.append_right (i ++ R))
  rw [List.append_assoc]
  refine List.Perm.append_left y ?_
  rw [← List.append_assoc, ← List.append_assoc]
  exact List.Perm.append_right R List.perm_append_comm
theorem Wn.ctN {P : Program} {T n : Nat} {bq : Nat → Nat} {wt : Nat → List Int} {h : Hp} (w : Wn T n bq wt h) {r : Nat} (hr : r < n) {f : FuncId} {args : List Value} {p : Value → Hp → Prop}
  (k : ∀ x, WAt T (bq r) (wt r) x → Ct P f args [x] (fun v H' => ∃ y, H' = [x, y] ∧ p v y)) : Ct P f args [h] (fun v H' => ∃ y, H' = [h, y] ∧ p v y) := by
 obtain ⟨x, fr, hx, hp, _⟩ := w.at hr
 refine ⟨fun g R w hw => ((k x hx).calls g (fr ++ R) w (hw.perm ?_)).mono fun e w' ⟨v, H', he, ⟨y, hH, hy⟩, ho⟩ => ?_⟩
 ·simp only [List.cons_append, List.nil_append, List.flatten_cons, List.flatten_nil, List.append_nil]
  rw [← List.append_assoc]
  exact hp.append_right R
 ·subst hH
  refine ⟨v, [h, y], he, ⟨y, rfl, hy⟩, ho.perm ?_⟩
  simp only [List.cons_append, List.nil_append, List.flatten_cons, List.flatten_nil, List.append_nil]
  refine List.Perm.trans ?_ (hp.symm.append_right (y ++ R))
  rw [List.append_assoc]
  refine List.Perm.append_left x ?_
  rw [← List.append_assoc, ← List.append_assoc]
  exact List.Perm.append_right R List.perm_append_comm
theorem Wn.ct1 {P : Program} {T n : Nat} {bq : Nat → Nat} {wt : Nat → List Int} {h : Hp} (w : Wn T n bq wt h) {r : Nat} (hr : r < n) {f : FuncId} {args : List Value} {p : Value → Prop} {xs : List Int}
  (k : ∀ x, WAt T (bq r) (wt r) x → Ct P f args [x] (fun v H' => p v ∧ ∃ y, H' = [y] ∧ WAt T (bq r) xs y)) : Ct P f args [h] (fun v H' => p v ∧ ∃ h', H' = [h'] ∧ Wn T n bq (updF wt r xs) h') := by
 obtain ⟨x, fr, hx, hp, hback⟩ := w.at hr
 refine ⟨fun g R w hw => ((k x hx).calls g (fr ++ R) w (hw.perm ?_)).mono fun e w' ⟨v, H', he, ⟨hv, y, hH, hy⟩, ho⟩ => ?_⟩
 ·simp only [List.cons_append, List.nil_append, List.flatten_cons, List.flatten_nil, List.append_nil]
  rw [← List.append_assoc]
  exact hp.append_right R
 ·subst hH
  obtain ⟨h', hw', hp'⟩ := hback y (bq r) xs hy
  rw [updF_id] at hw'
  refine ⟨v, [h'], he, ⟨hv, h', rfl, hw'⟩, ho.perm ?_⟩
  simp only [List.cons_append, List.nil_append, List.flatten_cons, List.flatten_nil, List.append_nil]
  rw [← List.append_assoc]
  exact hp'.append_right R
def rowF {α : Type} (n : Nat) (f : Nat → α) : List α := (List.range n).map f
section
variable {α : Type} {n : Nat} {f : Nat → α}
theorem rowF_len : (rowF n f).length = n := by unfold rowF; rw [List.length_map, List.length_range]
theorem rowF_get {r : Nat} (h : r < n) : (rowF n f)[r]? = some (f r) := by
 unfold rowF; rw [List.getElem?_map, List.getElem?_range h]; rfl
theorem rowF_set {r : Nat} {x : α} : (rowF n f).set r x = rowF n (updF f r x) := by
 apply List.ext_getElem?
 intro i
 rw [List.getElem?_set]
 unfold rowF
 rw [List.length_map, List.length_range]
 by_cases h : r = i
 ·subst h
  rw [if_pos rfl]
  by_cases hr : r < n
  ·rw [if_pos hr, List.getElem?_map, List.getElem?_range hr]
   show some x = some (updF f r x r)
   rw [updF_same]
  ·rw [if_neg hr, List.getElem?_eq_none (by rw [List.length_map, List.length_range]; omega)]
 ·rw [if_neg h, List.getElem?_map, List.getElem?_map]
  by_cases hi : i < n
  ·rw [List.getElem?_range hi]
   show some (f i) = some (updF f r x i)
   rw [updF_ne (fun e => h e.symm)]
  ·rw [List.getElem?_eq_none (by rw [List.length_range]; omega)]; rfl
theorem rowF_succ : rowF (n + 1) f = rowF n f ++ [f n] := by unfold rowF; rw [List.range_succ, List.map_append]; rfl
theorem rowF_congr {g : Nat → α} (h : ∀ i, i < n → f i = g i) : rowF n f = rowF n g := by
 unfold rowF
 exact List.map_congr_left fun i hi => h i (List.mem_range.1 hi)
end
instance : Enc Cfg := ⟨13, Cfg.enc, fun _ => rfl, fun _ => rfl, by decide⟩
structure Dt where
 (dcs rn nn cl dc : Int)
 up : Bool
 (d w : Nat)
 (cs ws : Value)
def Dt.enc (m : Dt) : List Value := [.int .i64 m.dcs, .int .i64 m.rn, .int .i64 m.nn, .int .i64 m.cl, .int .i64 m.dc, .bool m.up, .pointer (some ⟨m.d, 0, none⟩), .pointer (some ⟨m.w, 0, none⟩), m.cs, m.ws]
abbrev DtBk (b : Nat) (m : Dt) : Hp := [(b, .cells (List.toArray m.enc) 91 (0, 0))]
abbrev RTy : Nat := 134
abbrev MS.dt (s : MS) (d w : Nat) (cs ws : Value) : Dt := ⟨s.dcs, (s.rn : Int), (s.nn : Int), s.cl, s.dc, s.up, d, w, cs, ws⟩
def MS.cfs (s : MS) : List Cfg := rowF s.rn fun r => (s.ch r).cfg
def ptrs (n : Nat) (bq : Nat → Nat) : List Gp := rowF n fun r => ⟨bq r⟩
def MS.T (s : MS) : Int := 243 * ((recs s.lg).length : Int)
structure Dp (s : MS) (d : Nat) (cs ws : Value) (bq : Nat → Nat) (hd hc hp hw : Hp) : Prop where
 d : RD s.lg d hd s.T
 c : IsSl 38 s.cfs cs hc
 p : IsSl 95 (ptrs s.rn bq) ws hp
 w : Wn RTy s.rn bq s.wt hw
abbrev DpH (s : MS) (b d w : Nat) (torn : Int) (cs ws : Value) (hd hc hp hw : Hp) : HH := [DtBk b (s.dt d w cs ws), VBk w d (lastN s.lg) torn, hd, hc, hp, hw]
def IsDs (s : MS) (b : Nat) (h : Hp) : Prop := ∃ d w torn cp cc wp wc bq hd hc hp hw, h = (DpH s b d w torn (.slice cp s.rn cc) (.slice wp s.rn wc) hd hc hp hw).flatten ∧ Dp s d (.slice cp s.rn cc) (.slice wp s.rn wc) bq hd hc hp hw
theorem Dp.mk' {s : MS} {d : Nat} {cs ws : Value} {bq : Nat → Nat} {hd hc hp hw : Hp} (D : Dp s d cs ws bq hd hc hp hw) : ∃ cp cc wp wc, cs = .slice cp s.rn cc ∧ ws = .slice wp s.rn wc := by
 obtain ⟨cp, cc, e⟩ := D.c.len
 obtain ⟨wp, wc, e2⟩ := D.p.len
 rw [MS.cfs, rowF_len] at e
 rw [ptrs, rowF_len] at e2
 exact ⟨cp, cc, wp, wc, e, e2⟩
theorem Dp.is {s : MS} {b d w : Nat} {torn : Int} {cs ws : Value} {bq : Nat → Nat} {hd hc hp hw : Hp} (D : Dp s d cs ws bq hd hc hp hw) : IsDs s b (DpH s b d w torn cs ws hd hc hp hw).flatten := by
 obtain ⟨cp, cc, wp, wc, rfl, rfl⟩ := D.mk'
 exact ⟨d, w, torn, cp, cc, wp, wc, bq, hd, hc, hp, hw, rfl, D⟩
theorem MsOk.T {s : MS} (ok : MsOk s) : 0 ≤ s.T ∧ s.T ≤ 254803968 := by
 have := recs_le ok.lg
 unfold MS.T; omega
end Go.Proofs.YtfcefidmdijjkaaGreat

namespace Go.Proofs.YtfcefidmdijjkaaGreat
open Go Go.Sl
section
variable (b : Nat) (m : Dt)
theorem self_ct : Ct Tryz.prog 72 [.pointer (some ⟨b, 0, none⟩)] [DtBk b m] (fun v H' => v = .agg (List.toArray (Ad4.enc ⟨2, m.dc, 0, 0⟩)) ∧ H' = [DtBk b m]) := by
 refine Ct.mk' Tryz.func72 rfl rfl rfl (fun g R => ?_)
 try simp only [List.cons_append]
 simp only [List.nil_append]
 repeat' (first | refine go ?_ | refine mv ?_ | (refine I.ld ?_; refine ld rfl ?_) | (refine I.fa ?_; refine fa ?_) | (refine I.nc ?_; refine nc ?_) | (refine I.st ?_; refine sG rfl rfl ?_) | refine bd ?_ | refine al (fun _ => ?_) | fail)
 exact D.finR1 [DtBk b m] _ rfl (.cellA rfl rfl .nil) ⟨rfl, rfl⟩
def nodeD (dc rn nn : Int) (a : Ad4) : Bool := decide (a.k = 1 ∧ a.dc = dc ∧ 0 ≤ a.rg ∧ a.rg < rn ∧ 0 ≤ a.nd ∧ a.nd < nn)
theorem dnode_ct (a : Ad4) : Ct Tryz.prog 73 [.pointer (some ⟨b, 0, none⟩), .agg (List.toArray a.enc)] [DtBk b m] (fun v H' => v = .bool (nodeD m.dc m.rn m.nn a) ∧ H' = [DtBk b m]) := by
 unfold nodeD
 by_cases h1 : a.k = 1
 ·by_cases h2 : a.dc = m.dc
  ·by_cases h3 : 0 ≤ a.rg
   ·by_cases h4 : a.rg < m.rn
    ·by_cases h5 : 0 ≤ a.nd
     ·skip
      refine Ct.mk' Tryz.func73 rfl rfl rfl (fun g R => ?_)
      try simp only [List.cons_append]
      simp only [List.nil_append]
      repeat' (first | refine go ?_ | refine asg ?_ | refine bx rfl (fun _ => ?_) | fail)
      rename_i b2
      refine W.quiet Tryz.mix (by kernel_rfl) ?_
      repeat' (first | refine go ?_ | refine mv ?_ | (refine I.ld ?_; refine ld rfl ?_) | refine asg ?_ | (refine I.gd ?_; first | refine gy ?_ | refine gT ?_) | (refine I.fa ?_; refine fa ?_) | (refine I.nc ?_; refine nc ?_) | (refine I.bin ?_; refine cm rfl rfl ?_) | (refine I.pk ?_; refine pT ?_) | fail)
      exact D.fin1 [DtBk b m] _ rfl rfl ⟨by simp [h1, h2, h3, h4, h5], rfl⟩
     ·skip
      refine Ct.mk' Tryz.func73 rfl rfl rfl (fun g R => ?_)
      try simp only [List.cons_append]
      simp only [List.nil_append]
      repeat' (first | refine go ?_ | refine asg ?_ | refine bx rfl (fun _ => ?_) | fail)
      rename_i b2
      refine W.quiet Tryz.mix (by kernel_rfl) ?_
      repeat' (first | refine go ?_ | refine mv ?_ | (refine I.ld ?_; refine ld rfl ?_) | refine asg ?_ | (refine I.gd ?_; first | refine gy ?_ | refine gn ?_ | refine gT ?_ | refine gF ?_) | (refine I.fa ?_; refine fa ?_) | (refine I.nc ?_; refine nc ?_) | (refine I.bin ?_; refine cm rfl rfl ?_) | (refine I.pk ?_; first | refine pT ?_ | refine pF ?_) | fail)
      exact D.fin1 [DtBk b m] _ rfl rfl ⟨by simp [h5], rfl⟩
    ·skip
     refine Ct.mk' Tryz.func73 rfl rfl rfl (fun g R => ?_)
     try simp only [List.cons_append]
     simp only [List.nil_append]
     repeat' (first | refine go ?_ | refine asg ?_ | refine bx rfl (fun _ => ?_) | fail)
     rename_i b2
     refine W.quiet Tryz.mix (by kernel_rfl) ?_
     repeat' (first | refine go ?_ | refine mv ?_ | (refine I.ld ?_; refine ld rfl ?_) | refine asg ?_ | (refine I.gd ?_; first | refine gy ?_ | refine gn ?_ | refine gT ?_ | refine gF ?_) | (refine I.fa ?_; refine fa ?_) | (refine I.nc ?_; refine nc ?_) | (refine I.bin ?_; refine cm rfl rfl ?_) | (refine I.pk ?_; first | refine pT ?_ | refine pF ?_) | fail)
     exact D.fin1 [DtBk b m] _ rfl rfl ⟨by simp [h4], rfl⟩
   ·skip
    refine Ct.mk' Tryz.func73 rfl rfl rfl (fun g R => ?_)
    try simp only [List.cons_append]
    simp only [List.nil_append]
    repeat' (first | refine go ?_ | refine asg ?_ | refine bx rfl (fun _ => ?_) | fail)
    rename_i b2
    refine W.quiet Tryz.mix (by kernel_rfl) ?_
    repeat' (first | refine go ?_ | refine mv ?_ | (refine I.ld ?_; refine ld rfl ?_) | refine asg ?_ | (refine I.gd ?_; first | refine gy ?_ | refine gn ?_ | refine gT ?_ | refine gF ?_) | (refine I.fa ?_; refine fa ?_) | (refine I.nc ?_; refine nc ?_) | (refine I.bin ?_; refine cm rfl rfl ?_) | (refine I.pk ?_; first | refine pT ?_ | refine pF ?_) | fail)
    exact D.fin1 [DtBk b m] _ rfl rfl ⟨by simp [h3], rfl⟩
  ·skip
   refine Ct.mk' Tryz.func73 rfl rfl rfl (fun g R => ?_)
   try simp only [List.cons_append]
   simp only [List.nil_append]
   repeat' (first | refine go ?_ | refine asg ?_ | refine bx rfl (fun _ => ?_) | fail)
   rename_i b2
   refine W.quiet Tryz.mix (by kernel_rfl) ?_
   repeat' (first | refine go ?_ | refine mv ?_ | (refine I.ld ?_; refine ld rfl ?_) | refine asg ?_ | (refine I.gd ?_; first | refine gy ?_ | refine gn ?_ | refine gT ?_ | refine gF ?_) | (refine I.fa ?_; refine fa ?_) | (refine I.nc ?_; refine nc ?_) | (refine I.bin ?_; refine cm rfl rfl ?_) | (refine I.pk ?_; first | refine pT ?_ | refine pF ?_) | fail)
   exact D.fin1 [DtBk b m] _ rfl rfl ⟨by simp [h2], rfl⟩
 ·skip
  refine Ct.mk' Tryz.func73 rfl rfl rfl (fun g R => ?_)
  try simp only [List.cons_append]
  simp only [List.nil_append]
  repeat' (first | refine go ?_ | refine asg ?_ | refine bx rfl (fun _ => ?_) | fail)
  rename_i b2
  refine W.quiet Tryz.mix (by kernel_rfl) ?_
  repeat' (first | refine go ?_ | refine mv ?_ | (refine I.ld ?_; refine ld rfl ?_) | refine asg ?_ | (refine I.gd ?_; first | refine gn ?_ | refine gF ?_) | (refine I.fa ?_; refine fa ?_) | (refine I.bin ?_; refine cm rfl rfl ?_) | (refine I.pk ?_; refine pF ?_) | fail)
  exact D.fin1 [DtBk b m] _ rfl rfl ⟨by simp [h1], rfl⟩
end
end Go.Proofs.YtfcefidmdijjkaaGreat

namespace Go.Proofs.YtfcefidmdijjkaaGreat
open Go Go.Sl
set_option maxRecDepth 4000 in
theorem dtold_ct (b : Nat) (m : Dt) {cfs : List Cfg} {hc : Hp} (hs : Rs cfs m.cs hc) {r : Nat} {c : Cfg} (hr : cfs[r]? = some c) (n : Int) :
  Ct Tryz.prog 71 [.pointer (some ⟨b, 0, none⟩), .int .i64 (r : Int), .int .i64 n] [DtBk b m, hc] (fun v H' => v = .agg (List.toArray (tellM m.dc r n c).enc) ∧ H' = [DtBk b m, hc]) := by
 have hsf := self_ct b m
 refine Ct.mk' Tryz.func71 rfl rfl rfl (fun g R => ?_)
 try simp only [List.cons_append]
 simp only [List.nil_append]
 repeat' (first | refine go ?_ | refine al (fun _ => ?_) | fail)
 rename_i b6
 refine W.hp (H' := [[(b6, .cells (List.toArray Msg.z.enc) 54 (0, 0))], DtBk b m, hc, R]) rfl ?_
 refine W.mixN 8 ([true, false] ++ List.replicate 15 true) [DtBk b m, hc] Tryz.mix (by kernel_rfl) ?_
 repeat' (first | refine go ?_ | refine mv ?_ | (refine I.ld ?_; refine ld rfl ?_) | (refine I.fa ?_; refine fa ?_) | (refine I.nc ?_; refine nc ?_) | refine mN ?_ | refine mU ?_ | refine mA ?_ | (refine I.ix ?_; refine ix rfl rfl ?_) | (refine I.cl ?_; refine WX.callQ rfl hsf rfl ?_) | (refine I.ld ?_; refine WX.loadEW rfl hs hr rfl rfl ?_) | (refine I.bd ?_; first | refine bdN (t := 42) [.int .i64 1, .int .i64 m.dc, .int .i64 (r : Int), .int .i64 n] ?_ (hf' := by exact rfl) | refine bdN (tellM m.dc r n c).enc ?_) | (refine I.st ?_; refine sGW Msg.z.enc (tellM m.dc r n c).enc rfl rfl ?_) | fail)
 exact D.finR1 [DtBk b m, hc] _ rfl (.cellA rfl rfl .nil) ⟨rfl, rfl⟩
theorem cfs_get {s : MS} {r : Nat} (h : r < s.rn) : s.cfs[r]? = some (s.ch r).cfg := rowF_get h
theorem dconf_ct {s : MS} (ok : MsOk s) {b : Nat} {h : Hp} (hm : IsDs s b h) (r : Int) :
  Ct Tryz.prog 43 [.pointer (some ⟨b, 0, none⟩), .int .i64 r] [h] (fun v H' => v = .agg (List.toArray (confS s r).enc) ∧ H' = [h]) := by
 obtain ⟨d, w, torn, cp, cc, wp, wc, bq, hd, hc, hp, hw, rfl, dp⟩ := hm
 have r1 := ok.r1; have r3 := ok.r3
 refine Ct.pack (pre := DpH s b d w torn (.slice cp s.rn cc) (.slice wp s.rn wc) hd hc hp hw) (post := fun v H' => v = .agg (List.toArray (confS s r).enc) ∧ H' = DpH s b d w torn (.slice cp s.rn cc) (.slice wp s.rn wc) hd hc hp hw) ?_ (by simp) (fun v H' ⟨h1, h2⟩ => ⟨[H'.flatten], by simp, h1, by rw [h2]⟩)
 have hr := dp.c.rs
 have hl : s.cfs.length = s.rn := rowF_len
 have hrnE : (s.dt d w (.slice cp s.rn cc) (.slice wp s.rn wc)).rn = (s.rn : Int) := rfl
 by_cases hup : s.up = true
 ·have hupd : ∀ d w cs ws, (s.dt d w cs ws).up = true := fun _ _ _ _ => hup
  by_cases h3 : 0 ≤ r ∧ r < (s.rn : Int)
  ·obtain ⟨k, rfl⟩ : ∃ k : Nat, r = (k : Int) := ⟨r.toNat, by omega⟩
   have hk : k < s.rn := by omega
   have hg := cfs_get hk
   rw [show confS s (k : Int) = (s.ch k).cfg by unfold confS; rw [if_pos ⟨hup, h3⟩]; rfl]
   refine Ct.mk' Tryz.func43 rfl rfl rfl (fun g R => ?_)
   try simp only [List.cons_append]
   simp only [List.nil_append]
   repeat' (first | refine go ?_ | refine mv ?_ | (refine I.ld ?_; refine ld rfl ?_) | (refine I.fa ?_; refine fa ?_) | (refine I.nc ?_; refine nc ?_) | (refine I.un ?_; refine nt ?_) | refine al (fun _ => ?_) | fail)
   rw [hupd]
   repeat' (first | refine go ?_ | refine mv ?_ | (refine I.ld ?_; refine ld rfl ?_) | (refine I.gd ?_; refine gy ?_) | (refine I.fa ?_; refine fa ?_) | (refine I.nc ?_; refine nc ?_) | (refine I.bin ?_; refine cm rfl rfl ?_) | (refine I.pk ?_; refine pF ?_) | (refine I.cond ?_; refine cN ?_) | (refine I.ix ?_; refine ix rfl rfl ?_) | (refine I.ld ?_; refine WX.loadEW rfl hr hg rfl rfl ?_) | (refine I.st ?_; refine sGW Cfg.z.enc (s.ch k).cfg.enc rfl rfl ?_) | fail)
   exact D.finR1 (DpH s b d w torn (.slice cp s.rn cc) (.slice wp s.rn wc) hd hc hp hw) _ rfl (.cellA rfl rfl .nil) ⟨rfl, rfl⟩
  ·rw [show confS s r = Cfg.z by unfold confS; rw [if_neg fun h => h3 h.2]]
   refine Ct.mk' Tryz.func43 rfl rfl rfl (fun g R => ?_)
   try simp only [List.cons_append]
   simp only [List.nil_append]
   by_cases h0 : r < 0
   ·repeat' (first | refine go ?_ | refine mv ?_ | (refine I.ld ?_; refine ld rfl ?_) | (refine I.fa ?_; refine fa ?_) | (refine I.nc ?_; refine nc ?_) | (refine I.un ?_; refine nt ?_) | refine al (fun _ => ?_) | fail)
    rw [hupd]
    repeat' (first | refine go ?_ | refine mv ?_ | (refine I.gd ?_; first | refine gy ?_ | refine gn ?_ | refine gT ?_) | (refine I.bin ?_; refine cm rfl rfl ?_) | (refine I.pk ?_; first | refine pT ?_ | refine pF ?_) | (refine I.cond ?_; refine cT ?_) | (refine I.bd ?_; refine bdN Cfg.z.enc ?_) | (refine I.st ?_; refine sGW Cfg.z.enc Cfg.z.enc rfl rfl ?_) | fail)
    exact D.finR1 (DpH s b d w torn (.slice cp s.rn cc) (.slice wp s.rn wc) hd hc hp hw) _ rfl (.cellA rfl rfl .nil) ⟨rfl, rfl⟩
   ·repeat' (first | refine go ?_ | refine mv ?_ | (refine I.ld ?_; refine ld rfl ?_) | (refine I.fa ?_; refine fa ?_) | (refine I.nc ?_; refine nc ?_) | (refine I.un ?_; refine nt ?_) | refine al (fun _ => ?_) | fail)
    rw [hupd]
    repeat' (first | refine go ?_ | refine mv ?_ | (refine I.ld ?_; refine ld rfl ?_) | (refine I.gd ?_; first | refine gy ?_ | refine gF ?_) | (refine I.fa ?_; refine fa ?_) | (refine I.nc ?_; refine nc ?_) | (refine I.bin ?_; refine cm rfl rfl ?_) | (refine I.pk ?_; refine pF ?_) | (refine I.cond ?_; refine cP ?_) | (refine I.bd ?_; refine bdN Cfg.z.enc ?_) | (refine I.st ?_; refine sGW Cfg.z.enc Cfg.z.enc rfl rfl ?_) | fail)
    exact D.finR1 (DpH s b d w torn (.slice cp s.rn cc) (.slice wp s.rn wc) hd hc hp hw) _ rfl (.cellA rfl rfl .nil) ⟨rfl, rfl⟩
 ·have hup : s.up = false := by simpa using hup
  have hupd : ∀ d w cs ws, (s.dt d w cs ws).up = false := fun _ _ _ _ => hup
  rw [show confS s r = Cfg.z by unfold confS; rw [if_neg (by rw [hup]; simp)]]
  refine Ct.mk' Tryz.func43 rfl rfl rfl (fun g R => ?_)
  try simp only [List.cons_append]
  simp only [List.nil_append]
  repeat' (first | refine go ?_ | refine mv ?_ | (refine I.ld ?_; refine ld rfl ?_) | (refine I.fa ?_; refine fa ?_) | (refine I.nc ?_; refine nc ?_) | (refine I.un ?_; refine nt ?_) | refine al (fun _ => ?_) | fail)
  rw [hupd]
  repeat' (first | refine go ?_ | refine mv ?_ | (refine I.gd ?_; refine gn ?_) | (refine I.pk ?_; refine pT ?_) | (refine I.cond ?_; refine cT ?_) | (refine I.bd ?_; refine bdN Cfg.z.enc ?_) | (refine I.st ?_; refine sGW Cfg.z.enc Cfg.z.enc rfl rfl ?_) | fail)
  exact D.finR1 (DpH s b d w torn (.slice cp s.rn cc) (.slice wp s.rn wc) hd hc hp hw) _ rfl (.cellA rfl rfl .nil) ⟨rfl, rfl⟩
def DsPost (q : MS × List Msg) (b : Nat) (v : Value) (H' : HH) : Prop := ∃ h' ho, H' = [h', ho] ∧ IsDs q.1 b h' ∧ IsSl 54 q.2 v ho
def DsPostL (q : MS × List Msg) (b : Nat) (v : Value) (H' : HH) : Prop := ∃ d w torn cs ws bq hd hc hp hw ho, H' = DpH q.1 b d w torn cs ws hd hc hp hw ++ [ho] ∧ Dp q.1 d cs ws bq hd hc hp hw ∧ IsSl 54 q.2 v ho
theorem DsPostL.pack {P : Program} {f : FuncId} {args : List Value} {s : MS} {b d w : Nat} {torn : Int} {cs ws : Value} {hd hc hp hw : Hp} {q : MS × List Msg} (h : Ct P f args (DpH s b d w torn cs ws hd hc hp hw) (DsPostL q b)) : Ct P f args [(DpH s b d w torn cs ws hd hc hp hw).flatten] (DsPost q b) :=
 Ct.pack h (by simp) fun v H' ⟨d, w, torn, cs, ws, bq, hd, hc, hp, hw, ho, h1, h2, h3⟩ =>
  ⟨[(DpH q.1 b d w torn cs ws hd hc hp hw).flatten, ho], by rw [h1]; simp, _, ho, rfl, h2.is, h3⟩
theorem layS_cfs {s : MS} {r : Nat} {c : Ch} (h : roomB s.lg 1 = true) : (layS s r c).1.cfs = s.cfs.set r c.cfg := by
 unfold MS.cfs
 rw [rowF_set]
 refine rowF_congr fun i _ => ?_
 unfold layS
 simp only [h, if_true]
 unfold updF
 split <;> rfl
set_option maxRecDepth 4000 in
theorem dlay_ct {s : MS} (ok : MsOk s) (b d w : Nat) (torn : Int) {cs ws : Value} {bq : Nat → Nat} {hd hc hp hw : Hp} (dp : Dp s d cs ws bq hd hc hp hw) {r : Nat} (hr : r < s.rn) {c : Ch} (hck : ChOk c) :
  Ct Tryz.prog 34 [.pointer (some ⟨b, 0, none⟩), .int .i64 (r : Int), .agg (List.toArray c.cfg.enc)] (DpH s b d w torn cs ws hd hc hp hw) (DsPostL (layS s r c) b) := by
 have n4 := ok.n4
 have hT := ok.T
 have hroomc := vroom_ct ok.lg.ok dp.d (w := w) (seg := lastN s.lg) (torn := torn) 1
 have hl : s.cfs.length = s.rn := rowF_len
 obtain ⟨cp, cc, wp, wc, rfl, rfl⟩ := dp.mk'
 have hnnE : (s.dt d w (.slice cp s.rn cc) (.slice wp s.rn wc)).nn = (s.nn : Int) := rfl
 refine Ct.mk' Tryz.func34 rfl rfl rfl (fun g R => ?_)
 try simp only [List.cons_append]
 simp only [List.nil_append]
 repeat' (first | refine go ?_ | refine mv ?_ | (refine I.ld ?_; refine ld rfl ?_) | refine asg ?_ | (refine I.fa ?_; refine fa ?_) | (refine I.nc ?_; refine nc ?_) | refine bx rfl (fun _ => ?_) | fail)
 rename_i b5
 refine WX.callQ rfl hroomc rfl ?_
 cases hrm : roomB s.lg 1 with
 | false =>
  have hls : layS s r c = (s, []) := by unfold layS; simp only [hrm]; rfl
  rw [hls]
  repeat' (first | refine go ?_ | refine asg ?_ | (refine I.cond ?_; refine cT ?_) | (refine I.un ?_; refine nt ?_) | fail)
  refine D.nilH ?_
  exact D.fin1 [DtBk b (s.dt d w (.slice cp s.rn cc) (.slice wp s.rn wc)), VBk w d (lastN s.lg) torn, hd, hc, hp, hw, []] _ rfl rfl ⟨d, w, torn, _, _, bq, hd, hc, hp, hw, [], rfl, dp, IsSl.nil _⟩
 | true =>
  obtain ⟨g1, g2, g3⟩ := lay_log ok.lg (r := r) (by have := ok.r3; omega) (Ch.cfgN hck) hrm
  have okl := ok.lay hr hck
  have e1 : (layS s r c).1.lg = layL s.lg r c.cfg := by unfold layS; simp only [hrm, if_true]
  have e2 := layS_cfs (s := s) (r := r) (c := c) hrm
  have e3 : (layS s r c).2 = tells s.dc r s.nn c.cfg := by unfold layS; simp only [hrm, if_true]
  repeat' (first | refine go ?_ | refine asg ?_ | (refine I.cond ?_; refine cF ?_) | (refine I.un ?_; refine nt ?_) | fail)
  refine W.nilH ?_
  refine W.mixN 8 (List.replicate 8 true ++ [false, false, false]) [DtBk b (s.dt d w (.slice cp s.rn cc) (.slice wp s.rn wc)), [(b5, .cells (List.toArray c.cfg.enc) 38 (0, 0))]] Tryz.mix (by kernel_rfl) ?_
  repeat' (first | refine go ?_ | refine mv ?_ | (refine I.ld ?_; refine ld rfl ?_) | (refine I.fa ?_; refine fa ?_) | (refine I.nc ?_; refine nc ?_) | refine mU ?_ | refine mA ?_ | (refine I.bd ?_; refine bdN (recE r c.cfg).enc ?_) | (refine I.ld ?_; refine lAN c.cfg.enc c.cfg.enc rfl ?_) | fail)
  refine I.bs ?_
  refine WX.lit (ys := [recE r c.cfg]) rfl rfl rfl rfl rfl rfl (by decide) rfl (fun v2 h2 hs2 => ?_)
  repeat' (first | refine go ?_ | refine mA ?_ | fail)
  refine WX.app rfl rfl (IsSl.nil (α := Rec) _) hs2.rs rfl rfl (by decide) (by simp only [List.length_cons, List.length_nil]; omega) rfl (fun v3 h3 hs3 => ?_)
  rw [List.nil_append] at hs3
  repeat' (first | refine go ?_ | refine mA ?_ | fail)
  refine WX.call rfl (vadd_ct ok.lg.ok dp.d hs3.rs (by simp only [List.length_cons, List.length_nil]; omega) hT.1 (by omega) (by intro x hx; rw [List.mem_singleton.1 hx]; exact Nat.zero_le _) (w := w) (torn := torn)) rfl ?_
  rintro _ _ ⟨h4, rfl, rfl, hd4⟩
  rw [ladd_1] at hd4 ⊢
  have hd5 : RD (ladd1 s.lg (recE r c.cfg)).1 d h4 (layS s r c).1.T := by
   refine hd4.mono ?_
   unfold MS.T
   rw [e1, g3, List.length_append, List.length_singleton]
   omega
  simp only [List.cons_append, List.nil_append]
  repeat' (first | refine go ?_ | refine mv ?_ | (refine I.ld ?_; refine ld rfl ?_) | (refine I.fa ?_; refine fa ?_) | (refine I.nc ?_; refine nc ?_) | refine mN ?_ | refine WX.nil ?_ | fail)
  refine WX.call rfl (vsync_ct (w := w) (torn := torn) (seg := lastN (ladd1 s.lg (recE r c.cfg)).1) (by have := ok.lg.ok.add1 (recE r c.cfg); exact this) hd5) rfl ?_
  rintro _ _ ⟨h5, rfl, hd6⟩
  have hd6 : RD (layS s r c).1.lg d h5 (layS s r c).1.T := by rw [e1]; exact hd6
  simp only [List.cons_append, List.nil_append]
  repeat' (first | refine go ?_ | fail)
  refine W.mixN 8 (List.replicate 7 true) [DtBk b (s.dt d w (.slice cp s.rn cc) (.slice wp s.rn wc)), [(b5, .cells (List.toArray c.cfg.enc) 38 (0, 0))]] Tryz.mix (by kernel_rfl) ?_
  have hrc := dp.c.rs
  have hget := cfs_get hr
  repeat' (first | refine go ?_ | refine mv ?_ | (refine I.ld ?_; refine ld rfl ?_) | (refine I.fa ?_; refine fa ?_) | (refine I.nc ?_; refine nc ?_) | refine mN ?_ | refine mU ?_ | (refine I.ix ?_; refine ix rfl rfl ?_) | (refine I.ld ?_; refine lAN c.cfg.enc c.cfg.enc rfl ?_) | fail)
  refine I.st ?_
  refine WX.storeE (y' := c.cfg) (vs := Enc.enc c.cfg) rfl rfl rfl dp.c hget rfl rfl rfl (setAt_whole rfl) rfl (fun h6 hs6 => ?_)
  rw [← e2] at hs6
  refine WX.nil ?_
  repeat' (first | refine go ?_ | refine asg ?_ | fail)
  refine W.nilH ?_
  have hr6 := hs6.rs
  have hget6 : (layS s r c).1.cfs[r]? = some c.cfg := by rw [e2, List.getElem?_set]; simp [hl, hr]
  have hdt : (layS s r c).1.dt d w (.slice cp s.rn cc) (.slice wp s.rn wc) = s.dt d w (.slice cp s.rn cc) (.slice wp s.rn wc) := rfl
  refine W.loop (α := Nat × Value × Hp) (fun x => x.1 ≤ s.nn ∧ IsSl 54 (tells s.dc r x.1 c.cfg) x.2.1 x.2.2)
   (fun x => [(0, .pointer (some ⟨b, 0, none⟩)), (1, .int .i64 (r : Int)), (8, x.2.1), (9, .int .i64 (x.1 : Int))]) (fun x => [x.2.2, DtBk b (s.dt d w (.slice cp s.rn cc) (.slice wp s.rn wc)), h6, VBk w d (lastN (ladd1 s.lg (recE r c.cfg)).1) torn, h5, hp, hw, R]) (fun x => s.nn - x.1) (0, .slice none 0 0, []) ⟨Nat.zero_le _, IsSl.nil _⟩ (by repeat (first | exact Fsub.nil | refine Fsub.cons rfl ?_)) (Hsub.of_picks inferInstance) ?_
  rintro ⟨k, v, ho⟩ ⟨hk, hs⟩
  simp only [] at hk hs ⊢
  have htl : (tells s.dc r k c.cfg).length ≤ 4 := by rw [tells_len]; omega
  by_cases hlt : k < s.nn
  ·have htold := dtold_ct b (s.dt d w (.slice cp s.rn cc) (.slice wp s.rn wc)) hr6 hget6 (k : Int)
   repeat' (first | refine go ?_ | refine mv ?_ | (refine I.ld ?_; refine ld rfl ?_) | (refine I.fa ?_; refine fa ?_) | (refine I.nc ?_; refine nc ?_) | (refine I.bin ?_; refine cm rfl rfl ?_) | (refine I.cond ?_; refine cP ?_) | fail)
   refine WX.callQ rfl htold rfl ?_
   refine I.bs ?_
   refine WX.lit (ys := [tellM s.dc r (k : Int) c.cfg]) rfl rfl rfl rfl rfl rfl (by decide) rfl (fun v5 h7 hs7 => ?_)
   skip
   refine WX.app rfl rfl hs hs7.rs rfl rfl (by decide) (by simp only [List.length_cons, List.length_nil]; omega) rfl (fun v6 h8 hs8 => ?_)
   rw [← tells_succ] at hs8
   repeat' (first | refine go ?_ | refine mv ?_ | refine asg ?_ | (refine I.bin ?_; refine ad ?_) | fail)
   exact D.round (k + 1, v6, h8) ⟨by simp only []; omega, hs8⟩ (by simp only []; omega) (by repeat (first | exact Fsub.nil | refine Fsub.cons rfl ?_)) (Hsub.of_picks inferInstance)
  ·obtain rfl : k = s.nn := by omega
   repeat' (first | refine go ?_ | refine mv ?_ | (refine I.ld ?_; refine ld rfl ?_) | refine asg ?_ | (refine I.fa ?_; refine fa ?_) | (refine I.nc ?_; refine nc ?_) | (refine I.bin ?_; refine cm rfl rfl ?_) | (refine I.cond ?_; refine cN ?_) | fail)
   rw [← e3] at hs
   have hln : lastN (layS s r c).1.lg = lastN (ladd1 s.lg (recE r c.cfg)).1 := by rw [e1]; unfold layL; rw [lastN_sync]
   exact D.fin1 [DtBk b (s.dt d w (.slice cp s.rn cc) (.slice wp s.rn wc)), VBk w d (lastN (ladd1 s.lg (recE r c.cfg)).1) torn, h5, h6, hp, hw, ho] _ rfl rfl ⟨d, w, torn, _, _, bq, h5, h6, hp, hw, ho, by rw [← hln]; rfl, ⟨hd6, hs6, dp.p, dp.w⟩, hs⟩
theorem dsus_ct {s : MS} (ok : MsOk s) {b : Nat} {h : Hp} (hm : IsDs s b h) (r n : Int) :
  Ct Tryz.prog 39 [.pointer (some ⟨b, 0, none⟩), .int .i64 r, .int .i64 n] [h] (DsPost (susS s r n) b) := by
 obtain ⟨d, w, torn, cp, cc, wp, wc, bq, hd, hc, hp, hw, rfl, dp⟩ := hm
 have r1 := ok.r1; have r3 := ok.r3
 refine DsPostL.pack ?_
 have hr := dp.c.rs
 have hl : s.cfs.length = s.rn := rowF_len
 have hrnE : (s.dt d w (.slice cp s.rn cc) (.slice wp s.rn wc)).rn = (s.rn : Int) := rfl
 by_cases hup : s.up = true
 ·have hupd : ∀ d w cs ws, (s.dt d w cs ws).up = true := fun _ _ _ _ => hup
  by_cases h3 : 0 ≤ r ∧ r < (s.rn : Int)
  ·obtain ⟨k, rfl⟩ : ∃ k : Nat, r = (k : Int) := ⟨r.toNat, by omega⟩
   have hk : k < s.rn := by omega
   have hg := cfs_get hk
   have hdc := ddrop_ct (ok.ch k hk) n
   have hS : susS s (k : Int) n = match dropL (s.ch k) n with | some c => layS s k c | none => (s, []) := by unfold susS; rw [if_pos ⟨hup, h3⟩]; rfl
   rw [hS]
   refine Ct.mk' Tryz.func39 rfl rfl rfl (fun g R => ?_)
   try simp only [List.cons_append]
   simp only [List.nil_append]
   repeat' (first | refine go ?_ | refine mv ?_ | (refine I.ld ?_; refine ld rfl ?_) | refine asg ?_ | (refine I.fa ?_; refine fa ?_) | (refine I.nc ?_; refine nc ?_) | (refine I.un ?_; refine nt ?_) | fail)
   rw [hupd]
   repeat' (first | refine go ?_ | refine mv ?_ | (refine I.ld ?_; refine ld rfl ?_) | (refine I.gd ?_; refine gy ?_) | (refine I.fa ?_; refine fa ?_) | (refine I.nc ?_; refine nc ?_) | (refine I.bin ?_; refine cm rfl rfl ?_) | (refine I.pk ?_; refine pF ?_) | (refine I.cond ?_; refine cN ?_) | (refine I.ix ?_; refine ix rfl rfl ?_) | refine ex ?_ | refine al (fun _ => ?_) | (refine I.cl ?_; refine WX.callQ rfl hdc rfl ?_) | (refine I.ld ?_; refine WX.loadEW rfl hr hg rfl rfl ?_) | fail)
   cases hdl : dropL (s.ch k) n with
   | none =>
    repeat' (first | refine go ?_ | refine mv ?_ | refine asg ?_ | (refine I.cond ?_; refine cT ?_) | (refine I.un ?_; refine nt ?_) | (refine I.st ?_; refine sGW Cfg.z.enc Cfg.z.enc rfl rfl ?_) | fail)
    refine D.nilH ?_
    exact D.fin1 [DtBk b (s.dt d w (.slice cp s.rn cc) (.slice wp s.rn wc)), VBk w d (lastN s.lg) torn, hd, hc, hp, hw, []] _ rfl rfl ⟨d, w, torn, _, _, bq, hd, hc, hp, hw, [], rfl, dp, IsSl.nil _⟩
   | some c =>
    have hc := (ok.ch k hk).dropL hdl
    repeat' (first | refine go ?_ | refine mv ?_ | refine asg ?_ | (refine I.cond ?_; refine cF ?_) | (refine I.un ?_; refine nt ?_) | (refine I.st ?_; refine sGW Cfg.z.enc c.cfg.enc rfl rfl ?_) | (refine I.ld ?_; refine lAN c.cfg.enc c.cfg.enc rfl ?_) | fail)
    refine WX.call rfl (dlay_ct ok b d w torn dp hk hc) rfl ?_
    rintro v _ ⟨d', w', torn', cs', ws', bq', hd', hc', hp', hw', ho, rfl, dp', hs'⟩
    simp only [List.cons_append, List.nil_append]
    repeat' (first | refine go ?_ | refine asg ?_ | fail)
    exact D.fin1 [DtBk b ((layS s k c).1.dt d' w' cs' ws'), VBk w' d' (lastN (layS s k c).1.lg) torn', hd', hc', hp', hw', ho] _ rfl rfl ⟨d', w', torn', cs', ws', bq', hd', hc', hp', hw', ho, rfl, dp', hs'⟩
  ·rw [show susS s r n = (s, []) by unfold susS; rw [if_neg fun h => h3 h.2]]
   refine Ct.mk' Tryz.func39 rfl rfl rfl (fun g R => ?_)
   try simp only [List.cons_append]
   simp only [List.nil_append]
   by_cases h0 : r < 0
   ·repeat' (first | refine go ?_ | refine mv ?_ | (refine I.ld ?_; refine ld rfl ?_) | refine asg ?_ | (refine I.fa ?_; refine fa ?_) | (refine I.nc ?_; refine nc ?_) | (refine I.un ?_; refine nt ?_) | fail)
    rw [hupd]
    repeat' (first | refine go ?_ | refine mv ?_ | refine asg ?_ | (refine I.gd ?_; first | refine gy ?_ | refine gn ?_ | refine gT ?_) | (refine I.bin ?_; refine cm rfl rfl ?_) | (refine I.pk ?_; first | refine pT ?_ | refine pF ?_) | (refine I.cond ?_; refine cT ?_) | fail)
    refine D.nilH ?_
    exact D.fin1 [DtBk b (s.dt d w (.slice cp s.rn cc) (.slice wp s.rn wc)), VBk w d (lastN s.lg) torn, hd, hc, hp, hw, []] _ rfl rfl ⟨d, w, torn, _, _, bq, hd, hc, hp, hw, [], rfl, dp, IsSl.nil _⟩
   ·repeat' (first | refine go ?_ | refine mv ?_ | (refine I.ld ?_; refine ld rfl ?_) | refine asg ?_ | (refine I.fa ?_; refine fa ?_) | (refine I.nc ?_; refine nc ?_) | (refine I.un ?_; refine nt ?_) | fail)
    rw [hupd]
    repeat' (first | refine go ?_ | refine mv ?_ | (refine I.ld ?_; refine ld rfl ?_) | refine asg ?_ | (refine I.gd ?_; first | refine gy ?_ | refine gF ?_) | (refine I.fa ?_; refine fa ?_) | (refine I.nc ?_; refine nc ?_) | (refine I.bin ?_; refine cm rfl rfl ?_) | (refine I.pk ?_; refine pF ?_) | (refine I.cond ?_; refine cP ?_) | fail)
    refine D.nilH ?_
    exact D.fin1 [DtBk b (s.dt d w (.slice cp s.rn cc) (.slice wp s.rn wc)), VBk w d (lastN s.lg) torn, hd, hc, hp, hw, []] _ rfl rfl ⟨d, w, torn, _, _, bq, hd, hc, hp, hw, [], rfl, dp, IsSl.nil _⟩
 ·have hup : s.up = false := by simpa using hup
  have hupd : ∀ d w cs ws, (s.dt d w cs ws).up = false := fun _ _ _ _ => hup
  rw [show susS s r n = (s, []) by unfold susS; rw [if_neg (by rw [hup]; simp)]]
  refine Ct.mk' Tryz.func39 rfl rfl rfl (fun g R => ?_)
  try simp only [List.cons_append]
  simp only [List.nil_append]
  repeat' (first | refine go ?_ | refine mv ?_ | (refine I.ld ?_; refine ld rfl ?_) | refine asg ?_ | (refine I.fa ?_; refine fa ?_) | (refine I.nc ?_; refine nc ?_) | (refine I.un ?_; refine nt ?_) | fail)
  rw [hupd]
  repeat' (first | refine go ?_ | refine mv ?_ | refine asg ?_ | (refine I.gd ?_; refine gn ?_) | (refine I.pk ?_; refine pT ?_) | (refine I.cond ?_; refine cT ?_) | fail)
  refine D.nilH ?_
  exact D.fin1 [DtBk b (s.dt d w (.slice cp s.rn cc) (.slice wp s.rn wc)), VBk w d (lastN s.lg) torn, hd, hc, hp, hw, []] _ rfl rfl ⟨d, w, torn, _, _, bq, hd, hc, hp, hw, [], rfl, dp, IsSl.nil _⟩
end Go.Proofs.YtfcefidmdijjkaaGreat

namespace Go.Proofs.YtfcefidmdijjkaaGreat
open Go Go.Sl
def silS (s : MS) (r n : Int) : Int := if s.up = true ∧ 0 ≤ r ∧ r < (s.rn : Int) then (if 0 ≤ n ∧ n < ((s.wt r.toNat).length : Int) then (s.wt r.toNat).getD n.toNat 0 else 0) else 0
theorem msil_ct {s : MS} (ok : MsOk s) {b : Nat} {h : Hp} (hm : IsMs s b h) (r n : Int) :
  Ct Tryz.prog 21 [.pointer (some ⟨b, 0, none⟩), .int .i64 r, .int .i64 n] [h] (fun v H' => v = .int .i64 (silS s r n) ∧ H' = [h]) := by
 have r1 := ok.r1; have r3 := ok.r3
 rcases hm with ⟨hup, d, w, torn, bq, hd, hw, rfl, hdk, hw3⟩ | ⟨hup, d, hd, rfl, hdk⟩
 ·have hrg := ranged_ct b (m := (s.mu d w bq).mt) (by show (1 : Int) ≤ (s.rn : Int); omega) (by show (s.rn : Int) ≤ 3; omega) r
  refine Ct.pack (pre := [MtBk b (s.mu d w bq).mt, WBk w d (lastN s.lg) torn, hd, hw]) (post := fun v H' => v = .int .i64 (silS s r n) ∧ H' = [MtBk b (s.mu d w bq).mt, WBk w d (lastN s.lg) torn, hd, hw]) ?_ (by simp) (fun v H' ⟨h1, h2⟩ => ⟨[MtBk b (s.mu d w bq).mt ++ (WBk w d (lastN s.lg) torn ++ (hd ++ hw))], by rw [h2]; simp, h1, rfl⟩)
  by_cases h3 : 0 ≤ r ∧ r < (s.rn : Int)
  ·rw [show (decide ((s.mu d w bq).mt.up = true ∧ 0 ≤ r ∧ r < (s.mu d w bq).mt.rn)) = true from decide_eq_true ⟨rfl, h3⟩] at hrg
   obtain ⟨k, rfl⟩ : ∃ k : Nat, r = (k : Int) := ⟨r.toNat, by omega⟩
   have hk : k < s.rn := by omega
   have hsc := W3.ctQ hw3 (r := k) (by omega) (fun x hx => silence_ct hx n)
   rw [show silS s (k : Int) n = (if 0 ≤ n ∧ n < ((s.wt k).length : Int) then (s.wt k).getD n.toNat 0 else 0) by unfold silS; rw [if_pos ⟨hup, h3⟩]; rfl]
   refine Ct.mk' Tryz.func21 rfl rfl rfl (fun g R => ?_)
   try simp only [List.cons_append]
   simp only [List.nil_append]
   repeat' (first | refine go ?_ | refine mv ?_ | refine asg ?_ | (refine I.fa ?_; refine fa ?_) | (refine I.nc ?_; refine nc ?_) | (refine I.cond ?_; refine cF ?_) | (refine I.ix ?_; refine iP ?_) | (refine I.un ?_; refine nt ?_) | (refine I.cl ?_; first | refine WX.callQ rfl hrg rfl ?_ | refine WX.callQ rfl hsc rfl ?_) | (refine I.ld ?_; refine lN (Mt.enc (s.mu d w bq).mt) (.pointer (some ⟨bq k, 0, none⟩)) rfl ?_ (hc := Mt.wAtI (s.mu d w bq) (by omega))) | fail)
   exact D.fin1 [MtBk b (s.mu d w bq).mt, WBk w d (lastN s.lg) torn, hd, hw] _ rfl rfl ⟨rfl, rfl⟩
  ·rw [show (decide ((s.mu d w bq).mt.up = true ∧ 0 ≤ r ∧ r < (s.mu d w bq).mt.rn)) = false from decide_eq_false fun h => h3 h.2] at hrg
   rw [show silS s r n = 0 by unfold silS; rw [if_neg fun h => h3 h.2]]
   refine Ct.mk' Tryz.func21 rfl rfl rfl (fun g R => ?_)
   try simp only [List.cons_append]
   simp only [List.nil_append]
   repeat' (first | refine go ?_ | refine mv ?_ | refine asg ?_ | (refine I.cond ?_; refine cT ?_) | (refine I.un ?_; refine nt ?_) | (refine I.cl ?_; refine WX.callQ rfl hrg rfl ?_) | fail)
   exact D.fin1 [MtBk b (s.mu d w bq).mt, WBk w d (lastN s.lg) torn, hd, hw] _ rfl rfl ⟨rfl, rfl⟩
 ·have hrg := ranged_ct b (m := MtD s.dcs s.rn s.nn s.cl s.dc d) (by show (1 : Int) ≤ (s.rn : Int); omega) (by show (s.rn : Int) ≤ 3; omega) r
  rw [show (decide ((MtD s.dcs s.rn s.nn s.cl s.dc d).up = true ∧ 0 ≤ r ∧ r < (MtD s.dcs s.rn s.nn s.cl s.dc d).rn)) = false from decide_eq_false fun h => by cases h.1] at hrg
  rw [show silS s r n = 0 by unfold silS; rw [if_neg (by rw [hup]; simp)]]
  refine Ct.ext ?_
  refine Ct.mk' Tryz.func21 rfl rfl rfl (fun g R => ?_)
  try simp only [List.cons_append]
  simp only [List.nil_append]
  repeat' (first | refine go ?_ | refine mv ?_ | refine asg ?_ | (refine I.cond ?_; refine cT ?_) | (refine I.un ?_; refine nt ?_) | (refine I.cl ?_; refine WX.callQ rfl hrg rfl ?_) | fail)
  exact D.fin1 [MtBk b (MtD s.dcs s.rn s.nn s.cl s.dc d)] _ rfl rfl ⟨rfl, rfl⟩
theorem ptrs_get {n : Nat} {bq : Nat → Nat} {k : Nat} (h : k < n) : (ptrs n bq)[k]? = some ⟨bq k⟩ := rowF_get h
theorem dsil_ct {s : MS} (ok : MsOk s) {b : Nat} {h : Hp} (hm : IsDs s b h) (r n : Int) :
  Ct Tryz.prog 46 [.pointer (some ⟨b, 0, none⟩), .int .i64 r, .int .i64 n] [h] (fun v H' => v = .int .i64 (silS s r n) ∧ H' = [h]) := by
 obtain ⟨d, w, torn, cp, cc, wp, wc, bq, hd, hc, hp, hw, rfl, dp⟩ := hm
 have r1 := ok.r1; have r3 := ok.r3
 refine Ct.pack (pre := DpH s b d w torn (.slice cp s.rn cc) (.slice wp s.rn wc) hd hc hp hw) (post := fun v H' => v = .int .i64 (silS s r n) ∧ H' = DpH s b d w torn (.slice cp s.rn cc) (.slice wp s.rn wc) hd hc hp hw) ?_ (by simp) (fun v H' ⟨h1, h2⟩ => ⟨[H'.flatten], by simp, h1, by rw [h2]⟩)
 have hr := dp.p.rs
 have hl : (ptrs s.rn bq).length = s.rn := rowF_len
 have hrnE : (s.dt d w (.slice cp s.rn cc) (.slice wp s.rn wc)).rn = (s.rn : Int) := rfl
 by_cases hup : s.up = true
 ·have hupd : ∀ d w cs ws, (s.dt d w cs ws).up = true := fun _ _ _ _ => hup
  by_cases h3 : 0 ≤ r ∧ r < (s.rn : Int)
  ·obtain ⟨k, rfl⟩ : ∃ k : Nat, r = (k : Int) := ⟨r.toNat, by omega⟩
   have hk : k < s.rn := by omega
   have hg := ptrs_get (bq := bq) hk
   have hsc := Wn.ctQ dp.w hk (fun x hx => rsilence_ct hx n)
   rw [show silS s (k : Int) n = (if 0 ≤ n ∧ n < ((s.wt k).length : Int) then (s.wt k).getD n.toNat 0 else 0) by unfold silS; rw [if_pos ⟨hup, h3⟩]; rfl]
   refine Ct.mk' Tryz.func46 rfl rfl rfl (fun g R => ?_)
   try simp only [List.cons_append]
   simp only [List.nil_append]
   repeat' (first | refine go ?_ | refine mv ?_ | (refine I.ld ?_; refine ld rfl ?_) | refine asg ?_ | (refine I.fa ?_; refine fa ?_) | (refine I.nc ?_; refine nc ?_) | (refine I.un ?_; refine nt ?_) | fail)
   rw [hupd]
   repeat' (first | refine go ?_ | refine mv ?_ | (refine I.ld ?_; first | refine ld rfl ?_ | refine lE rfl (by assumption) ?_) | refine asg ?_ | (refine I.gd ?_; refine gy ?_) | (refine I.fa ?_; refine fa ?_) | (refine I.nc ?_; refine nc ?_) | (refine I.bin ?_; refine cm rfl rfl ?_) | (refine I.pk ?_; refine pF ?_) | (refine I.cond ?_; refine cN ?_) | (refine I.ix ?_; refine ix rfl rfl ?_) | (refine I.cl ?_; refine WX.callQ rfl hsc rfl ?_) | fail)
   exact D.fin1 (DpH s b d w torn (.slice cp s.rn cc) (.slice wp s.rn wc) hd hc hp hw) _ rfl rfl ⟨rfl, rfl⟩
  ·rw [show silS s r n = 0 by unfold silS; rw [if_neg fun h => h3 h.2]]
   refine Ct.mk' Tryz.func46 rfl rfl rfl (fun g R => ?_)
   try simp only [List.cons_append]
   simp only [List.nil_append]
   by_cases h0 : r < 0
   ·repeat' (first | refine go ?_ | refine mv ?_ | (refine I.ld ?_; refine ld rfl ?_) | refine asg ?_ | (refine I.fa ?_; refine fa ?_) | (refine I.nc ?_; refine nc ?_) | (refine I.un ?_; refine nt ?_) | fail)
    rw [hupd]
    repeat' (first | refine go ?_ | refine mv ?_ | refine asg ?_ | (refine I.gd ?_; first | refine gy ?_ | refine gn ?_ | refine gT ?_) | (refine I.bin ?_; refine cm rfl rfl ?_) | (refine I.pk ?_; first | refine pT ?_ | refine pF ?_) | (refine I.cond ?_; refine cT ?_) | fail)
    exact D.fin1 (DpH s b d w torn (.slice cp s.rn cc) (.slice wp s.rn wc) hd hc hp hw) _ rfl rfl ⟨rfl, rfl⟩
   ·repeat' (first | refine go ?_ | refine mv ?_ | (refine I.ld ?_; refine ld rfl ?_) | refine asg ?_ | (refine I.fa ?_; refine fa ?_) | (refine I.nc ?_; refine nc ?_) | (refine I.un ?_; refine nt ?_) | fail)
    rw [hupd]
    repeat' (first | refine go ?_ | refine mv ?_ | (refine I.ld ?_; refine ld rfl ?_) | refine asg ?_ | (refine I.gd ?_; first | refine gy ?_ | refine gF ?_) | (refine I.fa ?_; refine fa ?_) | (refine I.nc ?_; refine nc ?_) | (refine I.bin ?_; refine cm rfl rfl ?_) | (refine I.pk ?_; refine pF ?_) | (refine I.cond ?_; refine cP ?_) | fail)
    exact D.fin1 (DpH s b d w torn (.slice cp s.rn cc) (.slice wp s.rn wc) hd hc hp hw) _ rfl rfl ⟨rfl, rfl⟩
 ·have hup : s.up = false := by simpa using hup
  have hupd : ∀ d w cs ws, (s.dt d w cs ws).up = false := fun _ _ _ _ => hup
  rw [show silS s r n = 0 by unfold silS; rw [if_neg (by rw [hup]; simp)]]
  refine Ct.mk' Tryz.func46 rfl rfl rfl (fun g R => ?_)
  try simp only [List.cons_append]
  simp only [List.nil_append]
  repeat' (first | refine go ?_ | refine mv ?_ | (refine I.ld ?_; refine ld rfl ?_) | refine asg ?_ | (refine I.fa ?_; refine fa ?_) | (refine I.nc ?_; refine nc ?_) | (refine I.un ?_; refine nt ?_) | fail)
  rw [hupd]
  repeat' (first | refine go ?_ | refine mv ?_ | refine asg ?_ | (refine I.gd ?_; refine gn ?_) | (refine I.pk ?_; refine pT ?_) | (refine I.cond ?_; refine cT ?_) | fail)
  exact D.fin1 (DpH s b d w torn (.slice cp s.rn cc) (.slice wp s.rn wc) hd hc hp hw) _ rfl rfl ⟨rfl, rfl⟩
theorem crash_id {f : Lf} {q : RfQ} (h : FR f q) (hf : f.full = f) (last : Int) : q.crash last = q := by
 have hs : f.s7 = (bytes f.rs).length := by
  have := congrArg Lf.k hf
  unfold Lf.s7
  rw [show f.k = f.rs.length from this.symm, List.take_length]
 have h1 := h.e
 have h2 := h.s
 have h3 := h.b
 have ht : q.ts = [] := by
  have : q.ts.length = 0 := by rw [h2, hs, ← h3] at h1; omega
  exact List.eq_nil_of_length_eq_zero this
 obtain ⟨n, qb, qs, ts⟩ := q
 simp only [] at h1 h2 h3 ht
 subst ht
 unfold RfQ.crash RfQ.cut RfQ.kp RfQ.tw
 simp only [List.takeWhile_nil, List.length_nil, Nat.add_zero, RfQ.mk.injEq, and_true, true_and]
 rw [List.take_of_length_le (by rw [h2, hs, ← h3]; exact Nat.le_refl _)]
theorem dcrash_ct {s : MS} (ok : MsOk s) {b : Nat} {h : Hp} (hm : IsDs s b h) :
  Ct Tryz.prog 40 [.pointer (some ⟨b, 0, none⟩)] [h] (fun v H' => v = .tuple #[] ∧ ∃ h', H' = [h'] ∧ IsDs (crashS s) b h') := by
 obtain ⟨d, w, torn, cp, cc, wp, wc, bq, hd, hc, hp, hw, rfl, dp⟩ := hm
 have hT := ok.T
 refine Ct.pack (pre := DpH s b d w torn (.slice cp s.rn cc) (.slice wp s.rn wc) hd hc hp hw) (post := fun v H' => v = .tuple #[] ∧ ∃ hd', H' = DpH (crashS s) b d w torn (.slice cp s.rn cc) (.slice wp s.rn wc) hd' hc hp hw ∧ RD s.lg d hd' s.T) ?_ (by simp)
  (fun v H' ⟨h1, hd', h2, h3⟩ => by subst h2; exact ⟨[(DpH (crashS s) b d w torn (.slice cp s.rn cc) (.slice wp s.rn wc) hd' hc hp hw).flatten], by simp, h1, _, rfl, Dp.is (s := crashS s) (bq := bq) ⟨h3, dp.c, dp.p, dp.w⟩⟩)
 cases hup : s.up with
 | true =>
  have hupd : ∀ d w cs ws, (s.dt d w cs ws).up = true := fun _ _ _ _ => hup
  obtain ⟨qs, t, lr, ht, hdk⟩ := dp.d
  have hq := lr.q ok.lg.ok.toLUp
  have hcr := rcrash_ct hq lr.t0 (by omega) (fun x hx => (lr.pos x hx).2) hdk (keep := 0) (by decide) (by decide)
  refine Ct.mk' Tryz.func40 rfl rfl rfl (fun g R => ?_)
  try simp only [List.cons_append]
  simp only [List.nil_append]
  repeat' (first | refine go ?_ | refine mv ?_ | (refine I.ld ?_; refine ld rfl ?_) | (refine I.fa ?_; refine fa ?_) | (refine I.nc ?_; refine nc ?_) | fail)
  rw [hupd]
  repeat' (first | refine go ?_ | refine mv ?_ | (refine I.ld ?_; refine ld rfl ?_) | (refine I.fa ?_; refine fa ?_) | (refine I.nc ?_; refine nc ?_) | (refine I.cond ?_; refine cT ?_) | fail)
  refine WX.call rfl hcr rfl ?_
  rintro _ _ ⟨last, h1, rfl, rfl, hdk1, _⟩
  have hid : (qs.map fun q => q.crash last) = qs := by
   conv => rhs; rw [← List.map_id qs]
   refine List.map_congr_left fun q hq => ?_
   obtain ⟨f, hf, hfr⟩ := lr.fr hq
   exact crash_id hfr (ok.lg.full f hf) last
  rw [hid] at hdk1
  simp only [List.cons_append, List.nil_append]
  repeat' (first | refine go ?_ | refine mv ?_ | (refine I.fa ?_; refine fa ?_) | (refine I.nc ?_; refine nc ?_) | fail)
  refine I.st ?_
  refine stN (Dt.enc (s.dt d w (.slice cp s.rn cc) (.slice wp s.rn wc))) (Dt.enc ((crashS s).dt d w (.slice cp s.rn cc) (.slice wp s.rn wc))) rfl rfl ?_
  repeat' (first | refine go ?_ | fail)
  refine D.hp (H' := [h1, DtBk b ((crashS s).dt d w (.slice cp s.rn cc) (.slice wp s.rn wc)), VBk w d (lastN (crashS s).lg) torn, hc, hp, hw, R]) rfl ?_
  exact D.finE (DpH (crashS s) b d w torn (.slice cp s.rn cc) (.slice wp s.rn wc) h1 hc hp hw) _ rfl ⟨rfl, h1, rfl, qs, t, lr, ht, hdk1⟩
 | false =>
  have hupd : ∀ d w cs ws, (s.dt d w cs ws).up = false := fun _ _ _ _ => hup
  refine Ct.mk' Tryz.func40 rfl rfl rfl (fun g R => ?_)
  try simp only [List.cons_append]
  simp only [List.nil_append]
  repeat' (first | refine go ?_ | refine mv ?_ | (refine I.ld ?_; refine ld rfl ?_) | (refine I.fa ?_; refine fa ?_) | (refine I.nc ?_; refine nc ?_) | fail)
  rw [hupd]
  repeat' (first | refine go ?_ | refine mv ?_ | (refine I.fa ?_; refine fa ?_) | (refine I.nc ?_; refine nc ?_) | (refine I.cond ?_; refine cF ?_) | fail)
  refine I.st ?_
  refine stN (Dt.enc (s.dt d w (.slice cp s.rn cc) (.slice wp s.rn wc))) (Dt.enc ((crashS s).dt d w (.slice cp s.rn cc) (.slice wp s.rn wc))) rfl rfl ?_
  repeat' (first | refine go ?_ | fail)
  refine D.hp (H' := [DtBk b ((crashS s).dt d w (.slice cp s.rn cc) (.slice wp s.rn wc)), VBk w d (lastN (crashS s).lg) torn, hd, hc, hp, hw, R]) rfl ?_
  exact D.finE (DpH (crashS s) b d w torn (.slice cp s.rn cc) (.slice wp s.rn wc) hd hc hp hw) _ rfl ⟨rfl, hd, rfl, dp.d⟩
def foldC (c : Cfg) (rs : List Rec) (i : Nat) : Cfg := rs.foldl (fun c r => if r.base = (i : Int) then r.c else c) c
theorem foldC_snoc {c : Cfg} {rs : List Rec} {x : Rec} {i : Nat} : foldC c (rs ++ [x]) i = if x.base = (i : Int) then x.c else foldC c rs i := by unfold foldC; rw [List.foldl_append]; rfl
theorem foldC_two (rs : List Rec) (i : Nat) : (∀ c, foldC c rs i = c) ∨ ∃ k, ∀ c, foldC c rs i = k := by
 induction rs with
 | nil => exact .inl fun c => rfl
 | cons x t ih =>
  have e : ∀ c, foldC c (x :: t) i = foldC (if x.base = (i : Int) then x.c else c) t i := fun c => rfl
  rcases ih with h | ⟨k, h⟩
  ·by_cases hx : x.base = (i : Int)
   ·exact .inr ⟨x.c, fun c => by rw [e, if_pos hx, h]⟩
   ·exact .inl fun c => by rw [e, if_neg hx, h]
  ·exact .inr ⟨k, fun c => by rw [e, h]⟩
theorem foldC_rep (rs : List Rec) (i : Nat) : foldC (rep rs i) rs i = rep rs i := by
 show foldC (foldC Cfg.z rs i) rs i = foldC Cfg.z rs i
 rcases foldC_two rs i with h | ⟨k, h⟩
 ·rw [h]
 ·rw [h, h]
def rowC (s : MS) (k : Nat) : List Cfg := rowF s.rn fun i => foldC (s.ch i).cfg ((recs s.lg).take k) i
theorem rowC_step {s : MS} {k : Nat} {x : Rec} (hx : (recs s.lg)[k]? = some x) (h0 : 0 ≤ x.base) : (rowC s k).set x.base.toNat x.c = rowC s (k + 1) := by
 unfold rowC
 rw [rowF_set]
 refine rowF_congr fun i _ => ?_
 rw [List.take_add_one, hx]
 show updF _ _ _ i = foldC _ (_ ++ [x]) i
 rw [foldC_snoc]
 unfold updF
 by_cases h : x.base = (i : Int)
 ·rw [if_pos h, if_pos (by omega)]
 ·rw [if_neg h, if_neg (by omega)]
theorem rowC_end {s : MS} (ok : MsOk s) : rowC s (recs s.lg).length = s.cfs := by
 unfold rowC MS.cfs
 refine rowF_congr fun i hi => ?_
 rw [List.take_length, ← ok.rep i hi]
 exact foldC_rep _ _
set_option maxRecDepth 4000 in
theorem dstart_ct {s : MS} (ok : MsOk s) {b : Nat} {h : Hp} (hm : IsDs s b h) :
  Ct Tryz.prog 41 [.pointer (some ⟨b, 0, none⟩)] [h] (fun v H' => v = .tuple #[] ∧ ∃ h', H' = [h'] ∧ IsDs (startS s) b h') := by
 cases hup : s.up with
 | true =>
  rw [show startS s = s by unfold startS; rw [if_pos hup]]
  have hm0 := id hm
  obtain ⟨d, w, torn, cp, cc, wp, wc, bq, hd, hc, hp, hw, rfl, dp⟩ := hm
  have hupd : ∀ d w cs ws, (s.dt d w cs ws).up = true := fun _ _ _ _ => hup
  refine Ct.pack (pre := DpH s b d w torn (.slice cp s.rn cc) (.slice wp s.rn wc) hd hc hp hw) (post := fun v H' => v = .tuple #[] ∧ H' = DpH s b d w torn (.slice cp s.rn cc) (.slice wp s.rn wc) hd hc hp hw) ?_ (by simp) (fun v H' ⟨h1, h2⟩ => by subst h2; exact ⟨[_], by simp, h1, _, rfl, hm0⟩)
  refine Ct.mk' Tryz.func41 rfl rfl rfl (fun g R => ?_)
  try simp only [List.cons_append]
  simp only [List.nil_append]
  repeat' (first | refine go ?_ | refine mv ?_ | (refine I.ld ?_; refine ld rfl ?_) | (refine I.fa ?_; refine fa ?_) | (refine I.nc ?_; refine nc ?_) | fail)
  rw [hupd]
  repeat' (first | refine go ?_ | (refine I.cond ?_; refine cT ?_) | fail)
  exact D.fin0 (DpH s b d w torn (.slice cp s.rn cc) (.slice wp s.rn wc) hd hc hp hw) _ rfl ⟨rfl, rfl⟩
 | false =>
  have r3 := ok.r3
  have n4 := ok.n4
  have e : startS s = ⟨s.dcs, s.cl, s.rn, s.nn, s.dc, true, s.lg, s.ch, fun _ => List.replicate s.nn 0⟩ := by unfold startS; rw [if_neg (by rw [hup]; decide)]
  obtain ⟨d, w, torn, cp, cc, wp, wc, bq, hd, hc, hp, hw, rfl, dp⟩ := hm
  have hupd : ∀ d w cs ws, (s.dt d w cs ws).up = false := fun _ _ _ _ => hup
  have hll := recs_le ok.lg
  have hop := vopen_whole ok.lg.ok dp.d
  rw [outF_kind ok.lg.kind] at hop
  have hl : s.cfs.length = s.rn := rowF_len
  rw [e]
  obtain ⟨s', hs'⟩ : ∃ s' : MS, s' = ⟨s.dcs, s.cl, s.rn, s.nn, s.dc, true, s.lg, s.ch, fun _ => List.replicate s.nn 0⟩ := ⟨_, rfl⟩
  rw [← hs']
  refine Ct.pack (pre := DpH s b d w torn (.slice cp s.rn cc) (.slice wp s.rn wc) hd hc hp hw) (post := fun v H' => v = .tuple #[] ∧ ∃ w' bq' hd' hc' hp' hw', H' = DpH s' b d w' 0 (.slice cp s.rn cc) (.slice wp s.rn wc) hd' hc' hp' hw' ∧ Dp s' d (.slice cp s.rn cc) (.slice wp s.rn wc) bq' hd' hc' hp' hw') ?_ (by simp)
   (fun v H' ⟨h1, w', bq', hd', hc', hp', hw', h2, h3⟩ => by subst h2; exact ⟨[(DpH s' b d w' 0 (.slice cp s.rn cc) (.slice wp s.rn wc) hd' hc' hp' hw').flatten], by simp, h1, _, rfl, h3.is⟩)
  refine Ct.mk' Tryz.func41 rfl rfl rfl (fun g R => ?_)
  try simp only [List.cons_append]
  simp only [List.nil_append]
  repeat' (first | refine go ?_ | refine mv ?_ | (refine I.ld ?_; refine ld rfl ?_) | (refine I.fa ?_; refine fa ?_) | (refine I.nc ?_; refine nc ?_) | fail)
  rw [hupd]
  repeat' (first | refine go ?_ | refine mv ?_ | (refine I.fa ?_; refine fa ?_) | (refine I.nc ?_; refine nc ?_) | (refine I.cond ?_; refine cF ?_) | fail)
  refine I.st ?_
  refine stN (Dt.enc (s.dt d w (.slice cp s.rn cc) (.slice wp s.rn wc))) (Dt.enc (s'.dt d w (.slice cp s.rn cc) (.slice wp s.rn wc))) rfl rfl ?_ (e := by rw [hs']; rfl)
  repeat' (first | refine go ?_ | refine mv ?_ | (refine I.ld ?_; refine ld rfl ?_) | (refine I.fa ?_; refine fa ?_) | (refine I.nc ?_; refine nc ?_) | fail)
  refine WX.call rfl hop rfl ?_
  rintro _ _ ⟨w', u, h1, ho, rfl, rfl, hd1, hs1⟩
  have hr1 := hs1.rs
  obtain ⟨up, uc, rfl⟩ := hr1.len
  simp only [List.cons_append, List.nil_append]
  repeat' (first | refine go ?_ | refine mv ?_ | refine asg ?_ | (refine I.fa ?_; refine fa ?_) | (refine I.nc ?_; refine nc ?_) | refine ex ?_ | fail)
  refine I.st ?_
  refine stN (Dt.enc (s'.dt d w (.slice cp s.rn cc) (.slice wp s.rn wc))) (Dt.enc (s'.dt d w' (.slice cp s.rn cc) (.slice wp s.rn wc))) rfl rfl ?_
  have hrnE : (s'.dt d w' (.slice cp s.rn cc) (.slice wp s.rn wc)).rn = (s.rn : Int) := by rw [hs']
  have hnnE : (s'.dt d w' (.slice cp s.rn cc) (.slice wp s.rn wc)).nn = (s.nn : Int) := by rw [hs']
  repeat' (first | refine go ?_ | refine asg ?_ | fail)
  refine W.loop (α := Nat × Hp) (fun x => x.1 ≤ (recs s.lg).length ∧ IsSl 38 (rowC s x.1) (.slice cp s.rn cc) x.2) (fun x => [(0, .pointer (some ⟨b, 0, none⟩)), (3, .slice up (recs s.lg).length uc), (4, .int .i64 (x.1 : Int))])
   (fun x => [x.2, DtBk b (s'.dt d w' (.slice cp s.rn cc) (.slice wp s.rn wc)), VBk w' d (lastN s.lg) 0, h1, ho, hp, R]) (fun x => (recs s.lg).length - x.1) (0, hc) ⟨Nat.zero_le _, dp.c⟩ (by repeat (first | exact Fsub.nil | refine Fsub.cons rfl ?_)) (Hsub.of_picks inferInstance) ?_
  rintro ⟨k, hck⟩ ⟨hk, hsk⟩
  simp only [] at hk hsk ⊢
  by_cases hlt : k < (recs s.lg).length
  ·obtain ⟨x, hx⟩ : ∃ x, (recs s.lg)[k]? = some x := ⟨_, List.getElem?_eq_getElem hlt⟩
   have hxm := List.mem_of_getElem? hx
   obtain ⟨b0, b3⟩ := ok.base x hxm
   have hk2 := ok.lg.kind x hxm
   obtain ⟨q, hq⟩ : ∃ q : Nat, x.base = (q : Int) := ⟨x.base.toNat, by omega⟩
   have hqn : q < s.rn := by omega
   have hget : (rowC s k)[q]? = some (foldC (s.ch q).cfg ((recs s.lg).take k) q) := rowF_get hqn
   have hstep := rowC_step hx b0
   rw [show x.base.toNat = q by omega] at hstep
   have hlk : (rowC s k).length = s.rn := rowF_len
   have hrk := hsk.rs
   repeat' (first | refine go ?_ | refine mv ?_ | (refine I.ld ?_; first | refine ld rfl ?_ | refine lE rfl (by assumption) ?_) | refine asg ?_ | (refine I.gd ?_; first | refine gy ?_ | refine gT ?_) | (refine I.fa ?_; first | refine fa ?_ | refine fE rfl ?_) | (refine I.nc ?_; refine nc ?_) | (refine I.bin ?_; refine cm rfl rfl ?_) | (refine I.pk ?_; refine pT ?_) | (refine I.cond ?_; refine cP ?_) | (refine I.bi ?_; refine ln rfl (by assumption) ?_) | (refine I.ix ?_; refine ix rfl rfl ?_) | fail)
   rw [hq]
   skip
   refine W.mixN 8 (List.replicate 11 true) [DtBk b (s'.dt d w' (.slice cp s.rn cc) (.slice wp s.rn wc)), ho] Tryz.mix (by kernel_rfl) ?_
   repeat' (first | refine go ?_ | refine mv ?_ | (refine I.ld ?_; refine ld rfl ?_) | (refine I.fa ?_; first | refine fa ?_ | refine fE rfl ?_) | (refine I.nc ?_; refine nc ?_) | refine mN ?_ | refine mU ?_ | (refine I.ix ?_; refine ix rfl rfl ?_) | (refine I.ld ?_; refine WX.loadEA rfl hr1 hx rfl (us := x.c.enc) rfl rfl rfl ?_) | fail)
   refine I.st ?_
   refine WX.storeE (y' := x.c) (vs := Enc.enc x.c) rfl rfl rfl hsk hget rfl rfl rfl (setAt_whole rfl) rfl (fun h6 hs6 => ?_)
   rw [hstep] at hs6
   repeat' (first | refine go ?_ | refine mv ?_ | refine asg ?_ | (refine I.bin ?_; refine ad ?_) | fail)
   exact D.round (k + 1, h6) ⟨by simp only []; omega, hs6⟩ (by simp only []; omega) (by repeat (first | exact Fsub.nil | refine Fsub.cons rfl ?_)) (Hsub.of_picks inferInstance)
  ·obtain rfl : k = (recs s.lg).length := by omega
   rw [rowC_end ok] at hsk
   repeat' (first | refine go ?_ | refine mv ?_ | refine asg ?_ | (refine I.bin ?_; refine cm rfl rfl ?_) | (refine I.cond ?_; refine cN ?_) | (refine I.bi ?_; refine ln rfl (by assumption) ?_) | fail)
   refine W.nilH ?_
   refine W.loop (α := Nat × (Nat → Nat) × Hp × Hp) (fun x => x.1 ≤ s.rn ∧ IsSl 95 (rowF s.rn fun i => (⟨if i < x.1 then x.2.1 i else bq i⟩ : Gp)) (.slice wp s.rn wc) x.2.2.1 ∧ Wn RTy x.1 x.2.1 (fun _ => List.replicate s.nn 0) x.2.2.2) (fun x => [(0, .pointer (some ⟨b, 0, none⟩)), (6, .int .i64 (x.1 : Int))])
    (fun x => [x.2.2.2, x.2.2.1, hck, DtBk b (s'.dt d w' (.slice cp s.rn cc) (.slice wp s.rn wc)), VBk w' d (lastN s.lg) 0, h1, R]) (fun x => s.rn - x.1) (0, (fun _ => 0), hp, []) ⟨Nat.zero_le _, by simp only [Nat.not_lt_zero, if_false]; exact dp.p, rfl⟩ (by repeat (first | exact Fsub.nil | refine Fsub.cons rfl ?_)) (Hsub.of_picks inferInstance) ?_
   rintro ⟨r, bq', hpr, hwr⟩ ⟨hr, hsp, hwn⟩
   simp only [] at hr hsp hwn ⊢
   by_cases hltr : r < s.rn
   ·have hget : (rowF s.rn fun i => (⟨if i < r then bq' i else bq i⟩ : Gp))[r]? = some ⟨if r < r then bq' r else bq r⟩ := rowF_get hltr
    have hnw := rwnew_ct (s'.dt d w' (.slice cp s.rn cc) (.slice wp s.rn wc)).nn
    rw [hnnE, newN_nat (by omega)] at hnw
    have hlk : (rowF s.rn fun i => (⟨if i < r then bq' i else bq i⟩ : Gp)).length = s.rn := rowF_len
    have hrk := hsp.rs
    repeat' (first | refine go ?_ | refine mv ?_ | (refine I.ld ?_; refine ld rfl ?_) | (refine I.fa ?_; refine fa ?_) | (refine I.nc ?_; refine nc ?_) | (refine I.bin ?_; refine cm rfl rfl ?_) | (refine I.cond ?_; refine cP ?_) | fail)
    refine W.mixN 8 (List.replicate 10 true ++ [false, true]) [DtBk b (s'.dt d w' (.slice cp s.rn cc) (.slice wp s.rn wc))] Tryz.mix (by kernel_rfl) ?_
    repeat' (first | refine go ?_ | refine mv ?_ | (refine I.ld ?_; refine ld rfl ?_) | (refine I.fa ?_; refine fa ?_) | (refine I.nc ?_; refine nc ?_) | refine mU ?_ | refine mA ?_ | fail)
    rw [hnnE]
    refine WX.call rfl hnw rfl ?_
    rintro _ _ ⟨b1, h7, rfl, rfl, hw1⟩
    simp only [List.cons_append, List.nil_append]
    repeat' (first | refine go ?_ | refine mN ?_ | refine mU ?_ | (refine I.ix ?_; refine ix rfl rfl ?_) | fail)
    refine I.st ?_
    refine WX.storeE (y' := (⟨b1⟩ : Gp)) (vs := [.pointer (some ⟨b1, 0, none⟩)]) rfl rfl rfl hsp hget rfl rfl rfl rfl rfl (fun h8 hs8 => ?_)
    rw [rowF_set, rowF_congr (g := fun i => (⟨if i < r + 1 then updF bq' r b1 i else bq i⟩ : Gp)) (fun i _ => by
     unfold updF
     by_cases h : i = r
     ·subst h; rw [if_pos rfl, if_pos (by omega), if_pos rfl]
     ·rw [if_neg h, if_neg h]
      show (⟨if i < r then bq' i else bq i⟩ : Gp) = _
      by_cases h2 : i < r
      ·rw [if_pos h2, if_pos (by omega)]
      ·rw [if_neg h2, if_neg (by omega)])] at hs8
    repeat' (first | refine go ?_ | refine mv ?_ | refine asg ?_ | (refine I.bin ?_; refine ad ?_) | fail)
    have hwu := hwn.upd (j := r) (b := b1) (xs := List.replicate s.nn 0) (Nat.le_refl _)
    rw [show updF (fun _ => List.replicate s.nn (0 : Int)) r (List.replicate s.nn 0) = fun _ => List.replicate s.nn 0 from updF_id (f := fun _ => List.replicate s.nn (0 : Int))] at hwu
    exact D.round (r + 1, updF bq' r b1, h8, hwr ++ h7) ⟨by simp only []; omega, hs8, hwr, h7, rfl, hwu, by simp only []; rw [updF_same]; exact hw1⟩ (by simp only []; omega) (by repeat (first | exact Fsub.nil | refine Fsub.cons rfl ?_)) (Hsub.of_picks inferInstance)
   ·obtain rfl : r = s.rn := by omega
    rw [rowF_congr (g := fun i => (⟨bq' i⟩ : Gp)) (fun i hi => by rw [if_pos hi])] at hsp
    repeat' (first | refine go ?_ | refine mv ?_ | (refine I.ld ?_; refine ld rfl ?_) | (refine I.fa ?_; refine fa ?_) | (refine I.nc ?_; refine nc ?_) | (refine I.bin ?_; refine cm rfl rfl ?_) | (refine I.cond ?_; refine cN ?_) | fail)
    exact D.finE [DtBk b (s'.dt d w' (.slice cp s.rn cc) (.slice wp s.rn wc)), VBk w' d (lastN s.lg) 0, h1, hck, hpr, hwr] _ rfl ⟨rfl, w', bq', h1, hck, hpr, hwr, by rw [hs'], by subst hs'; exact ⟨hd1, hsk, hsp, hwn⟩⟩
end Go.Proofs.YtfcefidmdijjkaaGreat

namespace Go.Proofs.YtfcefidmdijjkaaGreat
open Go Go.Sl
structure DR where
 (d w : Nat)
 torn : Int
 (cp : Option Addr)
 cc : Nat
 (wp : Option Addr)
 wc : Nat
 bq : Nat → Nat
 (hd hc hp hw : Hp)
abbrev DR.cs (x : DR) (s : MS) : Value := .slice x.cp s.rn x.cc
abbrev DR.ws (x : DR) (s : MS) : Value := .slice x.wp s.rn x.wc
def DR.Ok (x : DR) (s : MS) : Prop := Dp s x.d (x.cs s) (x.ws s) x.bq x.hd x.hc x.hp x.hw
abbrev DR.H (x : DR) (s : MS) (b : Nat) : HH := DpH s b x.d x.w x.torn (x.cs s) (x.ws s) x.hd x.hc x.hp x.hw
theorem IsDs.dr {s : MS} {b : Nat} {h : Hp} (hm : IsDs s b h) : ∃ x : DR, h = (x.H s b).flatten ∧ x.Ok s := by
 obtain ⟨d, w, torn, cp, cc, wp, wc, bq, hd, hc, hp, hw, rfl, dp⟩ := hm
 exact ⟨⟨d, w, torn, cp, cc, wp, wc, bq, hd, hc, hp, hw⟩, rfl, dp⟩
theorem dlayR_ct {s : MS} (ok : MsOk s) (b : Nat) {x : DR} (dp : x.Ok s) {r : Nat} (hr : r < s.rn) {c : Ch} (hck : ChOk c) :
  Ct Tryz.prog 34 [.pointer (some ⟨b, 0, none⟩), .int .i64 (r : Int), .agg (List.toArray c.cfg.enc)] (x.H s b)
   (fun v H' => ∃ (y : DR) (ho : Hp), H' = [DtBk b ((layS s r c).1.dt y.d y.w (y.cs (layS s r c).1) (y.ws (layS s r c).1)), VBk y.w y.d (lastN (layS s r c).1.lg) y.torn, y.hd, y.hc, y.hp, y.hw, ho] ∧ y.Ok (layS s r c).1 ∧ IsSl 54 (layS s r c).2 v ho) :=
 (dlay_ct ok b x.d x.w x.torn dp hr hck).mono fun v H' ⟨d', w', torn', cs', ws', bq', hd', hc', hp', hw', ho, e, dp', hs'⟩ => by
  obtain ⟨cp, cc, wp, wc, rfl, rfl⟩ := dp'.mk'
  exact ⟨⟨d', w', torn', cp, cc, wp, wc, bq', hd', hc', hp', hw'⟩, ho, e, dp', hs'⟩
set_option maxRecDepth 4000 in
set_option maxHeartbeats 1000000 in
theorem dtick_ct {s : MS} (ok : MsOk s) {b : Nat} {h : Hp} (hm : IsDs s b h) :
  Ct Tryz.prog 38 [.pointer (some ⟨b, 0, none⟩)] [h] (DsPost (tickS s) b) := by
 have r1 := ok.r1; have r3 := ok.r3; have n4 := ok.n4
 cases hup : s.up with
 | false =>
  rw [show tickS s = (s, []) by unfold tickS; rw [if_neg (by rw [hup]; decide)]]
  obtain ⟨d, w, torn, cp, cc, wp, wc, bq, hd, hc, hp, hw, rfl, dp⟩ := hm
  refine DsPostL.pack ?_
  have hupd : ∀ d w cs ws, (s.dt d w cs ws).up = false := fun _ _ _ _ => hup
  have hrnE : (s.dt d w (.slice cp s.rn cc) (.slice wp s.rn wc)).rn = (s.rn : Int) := rfl
  refine Ct.mk' Tryz.func38 rfl rfl rfl (fun g R => ?_)
  try simp only [List.cons_append]
  simp only [List.nil_append]
  repeat' (first | refine go ?_ | refine asg ?_ | fail)
  refine W.loop (α := Unit) (fun _ => True) (fun _ => [(0, .pointer (some ⟨b, 0, none⟩)), (3, .slice none 0 0), (4, .int .i64 0)]) (fun _ => [DtBk b (s.dt d w (.slice cp s.rn cc) (.slice wp s.rn wc)), VBk w d (lastN s.lg) torn, hd, hc, hp, hw, R]) (fun _ => 0) () trivial (by repeat (first | exact Fsub.nil | refine Fsub.cons rfl ?_)) (Hsub.of_picks inferInstance) ?_
  intro _ _
  repeat' (first | refine go ?_ | refine mv ?_ | (refine I.ld ?_; refine ld rfl ?_) | (refine I.gd ?_; first | refine gy ?_ | refine gT ?_) | (refine I.fa ?_; refine fa ?_) | (refine I.nc ?_; refine nc ?_) | (refine I.bin ?_; refine cm rfl rfl ?_) | (refine I.pk ?_; refine pT ?_) | fail)
  rw [hupd]
  repeat' (first | refine go ?_ | refine mv ?_ | refine asg ?_ | (refine I.cond ?_; refine cF ?_) | fail)
  refine D.nilH ?_
  exact D.fin1 [DtBk b (s.dt d w (.slice cp s.rn cc) (.slice wp s.rn wc)), VBk w d (lastN s.lg) torn, hd, hc, hp, hw, []] _ rfl rfl ⟨d, w, torn, _, _, bq, hd, hc, hp, hw, [], rfl, dp, IsSl.nil _⟩
 | true =>
  obtain ⟨x0, rfl, dp0⟩ := hm.dr
  refine DsPostL.pack ?_
  rw [show tickS s = tickK s s.rn by unfold tickS; rw [if_pos hup]]
  refine Ct.mk' Tryz.func38 rfl rfl rfl (fun g R => ?_)
  try simp only [List.cons_append]
  simp only [List.nil_append]
  repeat' (first | refine go ?_ | refine asg ?_ | fail)
  refine W.nilH ?_
  refine W.hp (H' := [[], DtBk b ((tickK s 0).1.dt x0.d x0.w (x0.cs (tickK s 0).1) (x0.ws (tickK s 0).1)), VBk x0.w x0.d (lastN (tickK s 0).1.lg) x0.torn, x0.hd, x0.hc, x0.hp, x0.hw, R]) rfl ?_
  refine W.loop (α := Nat × Value × Hp × DR) (fun x => x.1 ≤ s.rn ∧ IsSl 54 (tickK s x.1).2 x.2.1 x.2.2.1 ∧ x.2.2.2.Ok (tickK s x.1).1)
   (fun x => [(0, .pointer (some ⟨b, 0, none⟩)), (3, x.2.1), (4, .int .i64 (x.1 : Int))])
   (fun x => [x.2.2.1, DtBk b ((tickK s x.1).1.dt x.2.2.2.d x.2.2.2.w (x.2.2.2.cs (tickK s x.1).1) (x.2.2.2.ws (tickK s x.1).1)), VBk x.2.2.2.w x.2.2.2.d (lastN (tickK s x.1).1.lg) x.2.2.2.torn, x.2.2.2.hd, x.2.2.2.hc, x.2.2.2.hp, x.2.2.2.hw, R]) (fun x => s.rn - x.1) (0, .slice none 0 0, [], x0) ⟨Nat.zero_le _, IsSl.nil _, dp0⟩ (by repeat (first | exact Fsub.nil | refine Fsub.cons rfl ?_)) (Hsub.of_picks inferInstance) ?_
  rintro ⟨k, v, ho, ⟨d, w, torn, cp, cc, wp, wc, bq, hd, hc, hp, hw⟩⟩ ⟨hk, hs, dp⟩
  simp only [DR.cs, DR.ws] at hk hs dp ⊢
  have okk := MsOk.tickK ok k hk
  have sm := SameM.tickK s k
  have hol := tickK_len (s := s) k
  have hnk : s.nn * k ≤ 4 * 3 := Nat.mul_le_mul n4 (by omega)
  have hT : tickK s (k + 1) = ((tick1S (tickK s k).1 k).1, (tickK s k).2 ++ (tick1S (tickK s k).1 k).2) := rfl
  have hsr : (tickK s k).1.rn = s.rn := sm.rn
  have hsn : (tickK s k).1.nn ≤ 4 := by rw [sm.nn]; exact n4
  have hsu : (tickK s k).1.up = true := by rw [sm.up]; exact hup
  generalize hs' : (tickK s k).1 = s' at *
  generalize ho' : (tickK s k).2 = out at *
  have dp : Dp s' d (.slice cp s'.rn cc) (.slice wp s'.rn wc) bq hd hc hp hw := dp
  have hupd : ∀ d w cs ws, (s'.dt d w cs ws).up = true := fun _ _ _ _ => hsu
  have hrnE : (s'.dt d w (.slice cp s'.rn cc) (.slice wp s'.rn wc)).rn = (s.rn : Int) := by rw [← hsr]
  by_cases hlt : k < s.rn
  ·have hkr : k < s'.rn := by rw [hsr]; exact hlt
   have hwk := okk.wk k
   have htl : tickL (s'.wt k) = updF s'.wt k (tickL (s'.wt k)) k := updF_same.symm
   have htlen : (tickL (s'.wt k)).length ≤ 64 := by unfold tickL; rw [List.length_map]; exact hwk.1
   have hrp := dp.p.rs
   have hgp := ptrs_get (bq := bq) hkr
   have hpl : (ptrs s'.rn bq).length = s'.rn := rowF_len
   have hcl : s'.cfs.length = s'.rn := rowF_len
   repeat' (first | refine go ?_ | refine mv ?_ | (refine I.ld ?_; refine ld rfl ?_) | (refine I.gd ?_; first | refine gy ?_ | refine gT ?_) | (refine I.fa ?_; refine fa ?_) | (refine I.nc ?_; refine nc ?_) | (refine I.bin ?_; refine cm rfl rfl ?_) | (refine I.pk ?_; refine pT ?_) | fail)
   rw [hupd]
   repeat' (first | refine go ?_ | refine mv ?_ | (refine I.ld ?_; first | refine ld rfl ?_ | refine lE rfl (by assumption) ?_) | (refine I.fa ?_; refine fa ?_) | (refine I.nc ?_; refine nc ?_) | (refine I.cond ?_; refine cT ?_) | (refine I.ix ?_; refine ix rfl rfl ?_) | fail)
   refine WX.call rfl (Wn.ct1 dp.w hkr (fun y hy => rtick_ct hy hwk)) rfl ?_
   rintro _ _ ⟨rfl, hw', rfl, hw5⟩
   simp only [List.cons_append, List.nil_append]
   repeat' (first | refine go ?_ | refine mv ?_ | (refine I.ld ?_; first | refine ld rfl ?_ | refine lE rfl (by assumption) ?_) | (refine I.fa ?_; refine fa ?_) | (refine I.nc ?_; refine nc ?_) | (refine I.ix ?_; refine ix rfl rfl ?_) | fail)
   refine WX.call rfl (Wn.ctN hw5 hkr (fun y hy => rsilent_ct hy (by rw [← htl]; exact htlen) 4)) rfl ?_
   rintro vq _ ⟨hq, rfl, hsq⟩
   rw [← htl] at hsq
   have hrq := hsq.rs
   obtain ⟨qp, qc, rfl⟩ := hrq.len
   have hql : (silL (tickL (s'.wt k)) 4).length ≤ 64 := Nat.le_trans (silK_len _ _ _) htlen
   generalize hqs : silL (tickL (s'.wt k)) 4 = qs at *
   have hdt : s'.dt d w (.slice cp s'.rn cc) (.slice wp s'.rn wc) = (s'.tick k).dt d w (.slice cp s'.rn cc) (.slice wp s'.rn wc) := rfl
   have dpt : DR.Ok ⟨d, w, torn, cp, cc, wp, wc, bq, hd, hc, hp, hw'⟩ (s'.tick k) := ⟨dp.d, dp.c, dp.p, hw5⟩
   have hrc := dp.c.rs
   have hgc := cfs_get hkr
   simp only [List.cons_append, List.nil_append]
   repeat' (first | refine go ?_ | refine asg ?_ | fail)
   refine W.loop (α := Nat) (fun j => j ≤ qs.length ∧ ∀ (i : Nat) (p : Int), i < j → qs[i]? = some p → dropL (s'.ch k) p = none)
    (fun j => [(0, .pointer (some ⟨b, 0, none⟩)), (3, v), (4, .int .i64 (k : Int)), (5, .slice qp qs.length qc), (6, .int .i64 (j : Int))])
    (fun _ => [hq, hw', ho, DtBk b (s'.dt d w (.slice cp s'.rn cc) (.slice wp s'.rn wc)), VBk w d (lastN s'.lg) torn, hd, hc, hp, R]) (fun j => qs.length - j) 0 ⟨Nat.zero_le _, fun i p hi => absurd hi (Nat.not_lt_zero _)⟩ (by repeat (first | exact Fsub.nil | refine Fsub.cons rfl ?_)) (Hsub.of_picks inferInstance) ?_
   rintro j ⟨hj, hall⟩
   by_cases hjl : j < qs.length
   ·obtain ⟨q, hqj⟩ : ∃ q, qs[j]? = some q := ⟨_, List.getElem?_eq_getElem hjl⟩
    have hdc := ddrop_ct (okk.ch k hkr) q
    cases hdl : dropL (s'.ch k) q with
    | none =>
     rw [hdl] at hdc
     repeat' (first | refine go ?_ | refine mv ?_ | (refine I.bin ?_; refine cm rfl rfl ?_) | (refine I.cond ?_; refine cP ?_) | (refine I.bi ?_; refine ln rfl (by assumption) ?_) | fail)
     refine W.mixA 8 (List.replicate 11 true ++ [false, true, true, true, false, false, true]) 15 [DtBk b (s'.dt d w (.slice cp s'.rn cc) (.slice wp s'.rn wc)), hc, hq] Tryz.mix (by kernel_rfl) rfl ?_
     repeat' (first | refine go ?_ | refine mv ?_ | (refine I.ld ?_; first | refine ld rfl ?_ | refine lE rfl (by assumption) ?_) | refine asg ?_ | (refine I.fa ?_; refine fa ?_) | (refine I.nc ?_; refine nc ?_) | (refine I.bin ?_; refine ad ?_) | (refine I.cond ?_; refine cF ?_) | refine mN ?_ | refine WX.nil ?_ | refine mU ?_ | refine mA ?_ | (refine I.ix ?_; refine ix rfl rfl ?_) | refine ex ?_ | refine al (fun _ => ?_) | (refine I.ld ?_; refine WX.loadEW rfl hrc hgc rfl rfl ?_) | (refine I.cl ?_; refine WX.callQ rfl hdc rfl ?_) | (refine I.st ?_; refine sGW Cfg.z.enc Cfg.z.enc rfl rfl ?_) | refine WA.un ?_ | refine WA.backU ?_ | refine WA.back ?_ | refine WA.an ?_ ?_ | refine WA.nil ?_ | fail)
     all_goals
      refine D.round (j + 1) ⟨by omega, fun i p hi hp => ?_⟩ (by omega) (by repeat (first | exact Fsub.nil | refine Fsub.cons rfl ?_)) (Hsub.of_picks inferInstance)
      rcases Nat.lt_or_ge i j with h | h
      ·exact hall i p h hp
      ·obtain rfl : i = j := by omega
       rw [hqj] at hp
       cases hp
       exact hdl
    | some c =>
     rw [hdl] at hdc
     have hck := (okk.ch k hkr).dropL hdl
     have h1 : tick1S s' k = layS (s'.tick k) k c := by unfold tick1S; rw [hqs, fsome_at hqj hdl hall]
     have hlay := dlayR_ct (okk.tick k) b dpt hkr hck
     change Ct _ _ _ [DtBk b (s'.dt d w (.slice cp s'.rn cc) (.slice wp s'.rn wc)), VBk w d (lastN s'.lg) torn, hd, hc, hp, hw'] _ at hlay
     rw [h1] at hT
     have e1 : (tickK s (k + 1)).1 = (layS (s'.tick k) k c).1 := by rw [hT]
     have e2 : (tickK s (k + 1)).2 = out ++ (layS (s'.tick k) k c).2 := by rw [hT]
     have hll := lay_len (s := s'.tick k) (r := k) (c := c)
     have hll : (layS (s'.tick k) k c).2.length ≤ 4 := Nat.le_trans hll hsn
     repeat' (first | refine go ?_ | refine mv ?_ | (refine I.bin ?_; refine cm rfl rfl ?_) | (refine I.cond ?_; refine cP ?_) | (refine I.bi ?_; refine ln rfl (by assumption) ?_) | fail)
     refine W.mixA 8 (List.replicate 11 true ++ [false, true, true, true, false, false, true]) 15 [DtBk b (s'.dt d w (.slice cp s'.rn cc) (.slice wp s'.rn wc)), hc, hq] Tryz.mix (by kernel_rfl) rfl ?_
     repeat' (first | refine go ?_ | refine mv ?_ | (refine I.ld ?_; first | refine ld rfl ?_ | refine lE rfl (by assumption) ?_) | refine asg ?_ | (refine I.fa ?_; refine fa ?_) | (refine I.nc ?_; refine nc ?_) | (refine I.cond ?_; refine cT ?_) | refine mN ?_ | refine WX.nil ?_ | refine mU ?_ | refine mA ?_ | (refine I.ix ?_; refine ix rfl rfl ?_) | refine ex ?_ | refine al (fun _ => ?_) | (refine I.ld ?_; first | refine WX.loadEW rfl hrc hgc rfl rfl ?_ | refine lAN c.cfg.enc c.cfg.enc rfl ?_) | (refine I.cl ?_; refine WX.callQ rfl hdc rfl ?_) | (refine I.st ?_; refine sGW Cfg.z.enc c.cfg.enc rfl rfl ?_) | refine WA.un ?_ | refine WA.backU ?_ | refine WA.back ?_ | refine WA.an ?_ ?_ | refine WA.nil ?_ | fail)
     all_goals
      refine WX.call rfl hlay rfl ?_
      rintro v6 _ ⟨y, ho6, rfl, dp6, hs6⟩
      simp only [List.cons_append, List.nil_append]
      refine WX.app rfl rfl hs hs6.rs rfl rfl (by decide) (by omega) rfl (fun v7 h7 hs7 => ?_)
      rw [← e2] at hs7
      have dp7 : y.Ok (tickK s (k + 1)).1 := by rw [e1]; exact dp6
      repeat' (first | refine go ?_ | refine mv ?_ | refine asg ?_ | (refine I.bin ?_; refine ad ?_) | refine zY ?_ | fail)
      exact D.round (k + 1, v7, h7, y) ⟨by simp only []; omega, hs7, dp7⟩ (by simp only []; omega) (by repeat (first | exact Fsub.nil | refine Fsub.cons rfl ?_)) (by simp only []; rw [e1]; exact (Hsub.of_picks inferInstance))
   ·obtain rfl : j = qs.length := by omega
    have h1 : tick1S s' k = (s'.tick k, []) := by unfold tick1S; rw [hqs, fsome_none hall]
    rw [h1] at hT
    have e1 : (tickK s (k + 1)).1 = s'.tick k := by rw [hT]
    have e2 : (tickK s (k + 1)).2 = out := by rw [hT]; exact List.append_nil _
    have dp7 : DR.Ok ⟨d, w, torn, cp, cc, wp, wc, bq, hd, hc, hp, hw'⟩ (tickK s (k + 1)).1 := by rw [e1]; exact dpt
    rw [← e2] at hs
    repeat' (first | refine go ?_ | refine mv ?_ | refine asg ?_ | (refine I.bin ?_; first | refine cm rfl rfl ?_ | refine ad ?_) | (refine I.cond ?_; refine cN ?_) | (refine I.bi ?_; refine ln rfl (by assumption) ?_) | fail)
    refine D.hp (H' := [hq, hw', ho, DtBk b ((s'.tick k).dt d w (.slice cp (s'.tick k).rn cc) (.slice wp (s'.tick k).rn wc)), VBk w d (lastN (s'.tick k).lg) torn, hd, hc, hp, R]) rfl ?_
    exact D.round (k + 1, v, ho, ⟨d, w, torn, cp, cc, wp, wc, bq, hd, hc, hp, hw'⟩) ⟨by simp only []; omega, hs, dp7⟩ (by simp only []; omega) (by repeat (first | exact Fsub.nil | refine Fsub.cons rfl ?_)) (by simp only [DR.cs, DR.ws]; rw [e1]; exact (Hsub.of_picks inferInstance))
  ·obtain rfl : k = s.rn := by omega
   repeat' (first | refine go ?_ | refine mv ?_ | (refine I.ld ?_; refine ld rfl ?_) | refine asg ?_ | (refine I.gd ?_; first | refine gn ?_ | refine gF ?_) | (refine I.fa ?_; refine fa ?_) | (refine I.nc ?_; refine nc ?_) | (refine I.bin ?_; refine cm rfl rfl ?_) | (refine I.pk ?_; refine pF ?_) | (refine I.cond ?_; refine cF ?_) | fail)
   exact D.fin1 [DtBk b (s'.dt d w (.slice cp s'.rn cc) (.slice wp s'.rn wc)), VBk w d (lastN s'.lg) torn, hd, hc, hp, hw, ho] _ rfl rfl ⟨d, w, torn, .slice cp s'.rn cc, .slice wp s'.rn wc, bq, hd, hc, hp, hw, ho, by subst hs'; rfl, by subst hs'; exact dp, by subst ho'; exact hs⟩
end Go.Proofs.YtfcefidmdijjkaaGreat

namespace Go.Proofs.YtfcefidmdijjkaaGreat
open Go Go.Sl
theorem nodeD_B {s : MS} (hup : s.up = true) (a : Ad4) : nodeD s.dc (s.rn : Int) (s.nn : Int) a = nodeB s a := by
 unfold nodeD nodeB
 rw [decide_eq_decide]
 constructor
 ·rintro ⟨h1, h2, h3, h4, h5, h6⟩; exact ⟨hup, h1, h2, ⟨h3, h4⟩, h5, h6⟩
 ·rintro ⟨_, h1, h2, ⟨h3, h4⟩, h5, h6⟩; exact ⟨h1, h2, h3, h4, h5, h6⟩
theorem dhandleDn_ct {s : MS} {b : Nat} {h : Hp} (hm : IsDs s b h) (hup : s.up = false) (x : Msg) :
  Ct Tryz.prog 37 [.pointer (some ⟨b, 0, none⟩), .agg (List.toArray x.enc)] [h] (DsPost (handleS s x) b) := by
 rw [show handleS s x = (s, []) by unfold handleS; rw [if_pos hup]]
 obtain ⟨d, w, torn, cp, cc, wp, wc, bq, hd, hc, hp, hw, rfl, dp⟩ := hm
 refine DsPostL.pack ?_
 have hupd : ∀ d w cs ws, (s.dt d w cs ws).up = false := fun _ _ _ _ => hup
 skip
 refine Ct.mk' Tryz.func37 rfl rfl rfl (fun g R => ?_)
 try simp only [List.cons_append]
 simp only [List.nil_append]
 repeat' (first | refine go ?_ | refine mv ?_ | (refine I.ld ?_; refine ld rfl ?_) | refine asg ?_ | (refine I.fa ?_; refine fa ?_) | (refine I.nc ?_; refine nc ?_) | (refine I.un ?_; refine nt ?_) | refine bx rfl (fun _ => ?_) | fail)
 rename_i b3
 rw [hupd]
 repeat' (first | refine go ?_ | refine asg ?_ | (refine I.cond ?_; refine cT ?_) | fail)
 refine D.nilH ?_
 exact D.fin1 [DtBk b (s.dt d w (.slice cp s.rn cc) (.slice wp s.rn wc)), VBk w d (lastN s.lg) torn, hd, hc, hp, hw, []] _ rfl rfl ⟨d, w, torn, _, _, bq, hd, hc, hp, hw, [], rfl, dp, IsSl.nil _⟩
set_option maxRecDepth 4000 in
set_option maxHeartbeats 1000000 in
theorem dhandleUp_ct {s : MS} (ok : MsOk s) {b : Nat} {h : Hp} (hm : IsDs s b h) (hup : s.up = true) (x : Msg) :
  Ct Tryz.prog 37 [.pointer (some ⟨b, 0, none⟩), .agg (List.toArray x.enc)] [h] (DsPost (handleS s x) b) := by
 have r1 := ok.r1; have r3 := ok.r3; have n4 := ok.n4
 obtain ⟨d, w, torn, cp, cc, wp, wc, bq, hd, hc, hp, hw, rfl, dp⟩ := hm
 refine DsPostL.pack ?_
 have hupd : ∀ d w cs ws, (s.dt d w cs ws).up = true := fun _ _ _ _ => hup
 have hrnE : (s.dt d w (.slice cp s.rn cc) (.slice wp s.rn wc)).rn = (s.rn : Int) := rfl
 have hnd := dnode_ct b (s.dt d w (.slice cp s.rn cc) (.slice wp s.rn wc)) x.fr
 rw [show nodeD (s.dt d w (.slice cp s.rn cc) (.slice wp s.rn wc)).dc (s.dt d w (.slice cp s.rn cc) (.slice wp s.rn wc)).rn (s.dt d w (.slice cp s.rn cc) (.slice wp s.rn wc)).nn x.fr = nodeB s x.fr from nodeD_B hup x.fr] at hnd
 have hsf := self_ct b (s.dt d w (.slice cp s.rn cc) (.slice wp s.rn wc))
 have hrc := dp.c.rs
 have hrp := dp.p.rs
 have hpl : (ptrs s.rn bq).length = s.rn := rowF_len
 have hcl : s.cfs.length = s.rn := rowF_len
 by_cases k1 : x.kind = 1
 ·by_cases h3 : 0 ≤ x.ix ∧ x.ix < (s.rn : Int)
  ·have hS : handleS s x = (s, [foundM s.dc x (s.ch x.ix.toNat).cfg]) := by
    unfold handleS; rw [if_neg (by rw [hup]; decide), if_pos k1, if_pos h3]
   rw [hS]
   obtain ⟨h31, h32⟩ := h3
   have hg := cfs_get (s := s) (r := x.ix.toNat) (by omega)
   skip
   refine Ct.mk' Tryz.func37 rfl rfl rfl (fun g R => ?_)
   try simp only [List.cons_append]
   simp only [List.nil_append]
   repeat' (first | refine go ?_ | refine mv ?_ | (refine I.ld ?_; refine ld rfl ?_) | refine asg ?_ | (refine I.fa ?_; refine fa ?_) | (refine I.nc ?_; refine nc ?_) | (refine I.un ?_; refine nt ?_) | refine bx rfl (fun _ => ?_) | fail)
   rename_i b3
   rw [hupd]
   repeat' (first | refine go ?_ | (refine I.ld ?_; refine ld rfl ?_) | refine asg ?_ | (refine I.fa ?_; refine fa ?_) | (refine I.bin ?_; refine cm rfl rfl ?_) | (refine I.cond ?_; first | refine cF ?_ | refine cP ?_) | fail)
   refine W.quiet Tryz.mix (by kernel_rfl) ?_
   repeat' (first | refine go ?_ | refine mv ?_ | (refine I.ld ?_; refine ld rfl ?_) | (refine I.gd ?_; first | refine gy ?_ | refine gT ?_) | (refine I.fa ?_; refine fa ?_) | (refine I.nc ?_; refine nc ?_) | (refine I.bin ?_; refine cm rfl rfl ?_) | (refine I.pk ?_; refine pT ?_) | (refine I.cond ?_; refine cP ?_) | fail)
   refine W.nilH ?_
   refine W.mixN 8 ([true, true, false] ++ List.replicate 17 true ++ [false, false, true]) [[(b3, .cells (List.toArray x.enc) 54 (0, 0))], DtBk b (s.dt d w (.slice cp s.rn cc) (.slice wp s.rn wc)), hc] Tryz.mix (by kernel_rfl) ?_
   repeat' (first | refine go ?_ | refine mv ?_ | (refine I.ld ?_; refine ld rfl ?_) | (refine I.fa ?_; refine fa ?_) | (refine I.nc ?_; refine nc ?_) | refine mU ?_ | refine mA ?_ | (refine I.ix ?_; refine iI rfl rfl ?_) | (refine I.cl ?_; refine WX.callQ rfl hsf rfl ?_) | (refine I.ld ?_; first | refine lAN (t := 42) (Msg.enc x) (Ad4.enc x.fr) rfl ?_ | refine WX.loadEW rfl hrc hg rfl rfl ?_) | (refine I.bd ?_; refine bdN (foundM s.dc x (s.ch x.ix.toNat).cfg).enc ?_) | fail)
   refine I.bs ?_
   refine WX.lit (ys := [foundM s.dc x (s.ch x.ix.toNat).cfg]) rfl rfl rfl rfl rfl rfl (by decide) rfl (fun v2 h2 hs2 => ?_)
   repeat' (first | refine go ?_ | refine mA ?_ | fail)
   refine WX.app rfl rfl (IsSl.nil (α := Msg) _) hs2.rs rfl rfl (by decide) (by simp only [List.length_cons, List.length_nil]; omega) rfl (fun v3 h3 hs3 => ?_)
   rw [List.nil_append] at hs3
   repeat' (first | refine go ?_ | refine mv ?_ | refine asg ?_ | refine mN ?_ | refine WX.nil ?_ | refine mU ?_ | fail)
   exact D.fin1 [DtBk b (s.dt d w (.slice cp s.rn cc) (.slice wp s.rn wc)), VBk w d (lastN s.lg) torn, hd, hc, hp, hw, h3] _ rfl rfl ⟨d, w, torn, _, _, bq, hd, hc, hp, hw, h3, rfl, dp, hs3⟩
  ·have hS : handleS s x = (s, []) := by unfold handleS; rw [if_neg (by rw [hup]; decide), if_pos k1, if_neg h3]
   rw [hS]
   by_cases h0 : 0 ≤ x.ix
   ·skip
    refine Ct.mk' Tryz.func37 rfl rfl rfl (fun g R => ?_)
    try simp only [List.cons_append]
    simp only [List.nil_append]
    repeat' (first | refine go ?_ | refine mv ?_ | (refine I.ld ?_; refine ld rfl ?_) | refine asg ?_ | (refine I.fa ?_; refine fa ?_) | (refine I.nc ?_; refine nc ?_) | (refine I.un ?_; refine nt ?_) | refine bx rfl (fun _ => ?_) | fail)
    rename_i b3
    rw [hupd]
    repeat' (first | refine go ?_ | (refine I.ld ?_; refine ld rfl ?_) | refine asg ?_ | (refine I.fa ?_; refine fa ?_) | (refine I.bin ?_; refine cm rfl rfl ?_) | (refine I.cond ?_; first | refine cF ?_ | refine cP ?_) | fail)
    refine W.quiet Tryz.mix (by kernel_rfl) ?_
    repeat' (first | refine go ?_ | refine mv ?_ | (refine I.ld ?_; refine ld rfl ?_) | refine asg ?_ | (refine I.gd ?_; first | refine gy ?_ | refine gT ?_) | (refine I.fa ?_; refine fa ?_) | (refine I.nc ?_; refine nc ?_) | (refine I.bin ?_; refine cm rfl rfl ?_) | (refine I.pk ?_; refine pT ?_) | (refine I.cond ?_; refine cN ?_) | fail)
    refine D.nilH ?_
    exact D.fin1 [DtBk b (s.dt d w (.slice cp s.rn cc) (.slice wp s.rn wc)), VBk w d (lastN s.lg) torn, hd, hc, hp, hw, []] _ rfl rfl ⟨d, w, torn, _, _, bq, hd, hc, hp, hw, [], rfl, dp, IsSl.nil _⟩
   ·skip
    refine Ct.mk' Tryz.func37 rfl rfl rfl (fun g R => ?_)
    try simp only [List.cons_append]
    simp only [List.nil_append]
    repeat' (first | refine go ?_ | refine mv ?_ | (refine I.ld ?_; refine ld rfl ?_) | refine asg ?_ | (refine I.fa ?_; refine fa ?_) | (refine I.nc ?_; refine nc ?_) | (refine I.un ?_; refine nt ?_) | refine bx rfl (fun _ => ?_) | fail)
    rename_i b3
    rw [hupd]
    repeat' (first | refine go ?_ | (refine I.ld ?_; refine ld rfl ?_) | refine asg ?_ | (refine I.fa ?_; refine fa ?_) | (refine I.bin ?_; refine cm rfl rfl ?_) | (refine I.cond ?_; first | refine cF ?_ | refine cP ?_) | fail)
    refine W.quiet Tryz.mix (by kernel_rfl) ?_
    repeat' (first | refine go ?_ | refine mv ?_ | (refine I.ld ?_; refine ld rfl ?_) | refine asg ?_ | (refine I.gd ?_; first | refine gn ?_ | refine gF ?_) | (refine I.fa ?_; refine fa ?_) | (refine I.bin ?_; refine cm rfl rfl ?_) | (refine I.pk ?_; refine pF ?_) | (refine I.cond ?_; refine cF ?_) | fail)
    refine D.nilH ?_
    exact D.fin1 [DtBk b (s.dt d w (.slice cp s.rn cc) (.slice wp s.rn wc)), VBk w d (lastN s.lg) torn, hd, hc, hp, hw, []] _ rfl rfl ⟨d, w, torn, _, _, bq, hd, hc, hp, hw, [], rfl, dp, IsSl.nil _⟩
 by_cases k10 : x.kind = 10
 ·cases hnb : nodeB s x.fr with
  | false =>
   rw [hnb] at hnd
   have hS : handleS s x = (s, []) := by unfold handleS; rw [if_neg (by rw [hup]; decide), if_neg k1, if_pos hnb]
   rw [hS]
   skip
   refine Ct.mk' Tryz.func37 rfl rfl rfl (fun g R => ?_)
   try simp only [List.cons_append]
   simp only [List.nil_append]
   repeat' (first | refine go ?_ | refine mv ?_ | (refine I.ld ?_; refine ld rfl ?_) | refine asg ?_ | (refine I.fa ?_; refine fa ?_) | (refine I.nc ?_; refine nc ?_) | (refine I.un ?_; refine nt ?_) | refine bx rfl (fun _ => ?_) | fail)
   rename_i b3
   rw [hupd]
   repeat' (first | refine go ?_ | refine mv ?_ | (refine I.ld ?_; refine ld rfl ?_) | refine asg ?_ | (refine I.fa ?_; refine fa ?_) | (refine I.bin ?_; refine cm rfl rfl ?_) | (refine I.cond ?_; first | refine cF ?_ | refine cP ?_ | refine cN ?_) | fail)
   repeat' (first | refine go ?_ | refine asg ?_ | (refine I.cond ?_; refine cT ?_) | (refine I.un ?_; refine nt ?_) | (refine I.ld ?_; refine lAN (t := 42) (Msg.enc x) (Ad4.enc x.fr) rfl ?_) | (refine I.cl ?_; refine WX.callQ rfl hnd rfl ?_) | fail)
   refine D.nilH ?_
   exact D.fin1 [DtBk b (s.dt d w (.slice cp s.rn cc) (.slice wp s.rn wc)), VBk w d (lastN s.lg) torn, hd, hc, hp, hw, []] _ rfl rfl ⟨d, w, torn, _, _, bq, hd, hc, hp, hw, [], rfl, dp, IsSl.nil _⟩
  | true =>
   rw [hnb] at hnd
   obtain ⟨hk, hr0, hn0, hn1⟩ := nodeB_rg hnb
   have hrI : ((x.fr.rg.toNat : Nat) : Int) = x.fr.rg := Int.toNat_of_nonneg hr0
   have hS : handleS s x = helloS s x.fr.rg.toNat x.fr.nd x.ep := by unfold handleS; rw [if_neg (by rw [hup]; decide), if_neg k1, if_neg (by rw [hnb]; decide), if_pos k10]
   rw [hS]
   have hwt := dwith_ct (ok.ch _ hk) x.fr.nd
   have ok1 := ok.heard x.fr.rg.toNat x.fr.nd
   have hgp := ptrs_get (bq := bq) hk
   have hgc := cfs_get hk
   have hrlt : x.fr.rg < (s.rn : Int) := by omega
   skip
   refine Ct.mk' Tryz.func37 rfl rfl rfl (fun g R => ?_)
   try simp only [List.cons_append]
   simp only [List.nil_append]
   repeat' (first | refine go ?_ | refine mv ?_ | (refine I.ld ?_; refine ld rfl ?_) | refine asg ?_ | (refine I.fa ?_; refine fa ?_) | (refine I.nc ?_; refine nc ?_) | (refine I.un ?_; refine nt ?_) | refine bx rfl (fun _ => ?_) | fail)
   rename_i b3
   rw [hupd]
   repeat' (first | refine go ?_ | refine mv ?_ | (refine I.ld ?_; refine ld rfl ?_) | refine asg ?_ | (refine I.fa ?_; refine fa ?_) | (refine I.bin ?_; refine cm rfl rfl ?_) | (refine I.cond ?_; first | refine cF ?_ | refine cP ?_ | refine cN ?_) | (refine I.un ?_; refine nt ?_) | (refine I.ld ?_; refine lAN (t := 42) (Msg.enc x) (Ad4.enc x.fr) rfl ?_) | (refine I.cl ?_; refine WX.callQ rfl hnd rfl ?_) | fail)
   refine W.nilH ?_
   refine W.nilH ?_
   refine W.mixN 8 (List.replicate 11 true ++ [false, false, false]) [[(b3, .cells (List.toArray x.enc) 54 (0, 0))], DtBk b (s.dt d w (.slice cp s.rn cc) (.slice wp s.rn wc)), hp] Tryz.mix (by kernel_rfl) ?_
   repeat' (first | refine go ?_ | refine mv ?_ | (refine I.ld ?_; first | refine ld rfl ?_ | refine lE rfl (by assumption) ?_) | (refine I.fa ?_; refine fa ?_) | (refine I.nc ?_; refine nc ?_) | refine mU ?_ | refine mA ?_ | (refine I.ix ?_; refine iI rfl rfl ?_) | fail)
   refine I.bs ?_
   refine WX.lit (ys := [x.fr.nd]) rfl rfl rfl rfl rfl rfl (by decide) rfl (fun v2 h2 hs2 => ?_)
   repeat' (first | refine go ?_ | refine mA ?_ | fail)
   refine WX.app rfl rfl (IsSl.nil (α := Int) _) hs2.rs rfl rfl (by decide) (by simp only [List.length_cons, List.length_nil]; omega) rfl (fun v3 h3 hs3 => ?_)
   rw [List.nil_append] at hs3
   repeat' (first | refine go ?_ | refine mA ?_ | fail)
   refine WX.call rfl (Wn.ct dp.w hk (fun y hy => rheard_ct hy hs3.rs (by simp only [List.length_cons, List.length_nil]; omega))) rfl ?_
   rintro _ _ ⟨rfl, hw', rfl, hw3'⟩
   have hw3' : Wn RTy s.rn bq (s.heard x.fr.rg.toNat x.fr.nd).wt hw' := hw3'
   have dpt : DR.Ok ⟨d, w, torn, cp, cc, wp, wc, bq, hd, hc, hp, hw'⟩ (s.heard x.fr.rg.toNat x.fr.nd) := ⟨dp.d, dp.c, dp.p, hw3'⟩
   simp only [List.cons_append, List.nil_append]
   repeat' (first | refine go ?_ | refine mN ?_ | refine WX.nil ?_ | fail)
   cases hal : addL (s.ch x.fr.rg.toNat) x.fr.nd with
   | some c =>
    rw [hal] at hwt
    have hck := (ok.ch _ hk).addL hal
    have hlay := dlayR_ct ok1 b dpt hk hck
    rw [hrI] at hlay
    change Ct _ _ _ [DtBk b (s.dt d w (.slice cp s.rn cc) (.slice wp s.rn wc)), VBk w d (lastN s.lg) torn, hd, hc, hp, hw'] _ at hlay
    have hq : helloS s x.fr.rg.toNat x.fr.nd x.ep = layS (s.heard x.fr.rg.toNat x.fr.nd) x.fr.rg.toNat c := by unfold helloS; rw [hal]
    rw [hq]
    refine W.mixA 8 (List.replicate 10 true ++ [false, true, true, true, false, false, true]) 14 [[(b3, .cells (List.toArray x.enc) 54 (0, 0))], DtBk b (s.dt d w (.slice cp s.rn cc) (.slice wp s.rn wc)), hc] Tryz.mix (by kernel_rfl) rfl ?_
    repeat' (first | refine go ?_ | refine mv ?_ | (refine I.ld ?_; refine ld rfl ?_) | refine asg ?_ | (refine I.fa ?_; refine fa ?_) | (refine I.nc ?_; refine nc ?_) | (refine I.cond ?_; refine cT ?_) | refine mN ?_ | refine WX.nil ?_ | refine mU ?_ | refine mA ?_ | (refine I.ix ?_; refine iI rfl rfl ?_) | refine ex ?_ | refine al (fun _ => ?_) | (refine I.ld ?_; first | refine WX.loadEW rfl hrc hgc rfl rfl ?_ | refine lAN (t := 38) c.cfg.enc c.cfg.enc rfl ?_) | (refine I.cl ?_; refine WX.callQ rfl hwt rfl ?_) | (refine I.st ?_; refine sGW Cfg.z.enc c.cfg.enc rfl rfl ?_) | refine WA.un ?_ | refine WA.backU ?_ | refine WA.back ?_ | refine WA.an ?_ ?_ | refine WA.nil ?_ | fail)
    all_goals
     refine WX.call rfl hlay rfl ?_
     rintro v6 _ ⟨y, ho6, rfl, dp6, hs6⟩
     simp only [List.cons_append, List.nil_append]
     repeat' (first | refine go ?_ | refine asg ?_ | fail)
     exact D.fin1 [DtBk b ((layS (s.heard x.fr.rg.toNat x.fr.nd) x.fr.rg.toNat c).1.dt y.d y.w (y.cs (layS (s.heard x.fr.rg.toNat x.fr.nd) x.fr.rg.toNat c).1) (y.ws (layS (s.heard x.fr.rg.toNat x.fr.nd) x.fr.rg.toNat c).1)), VBk y.w y.d (lastN (layS (s.heard x.fr.rg.toNat x.fr.nd) x.fr.rg.toNat c).1.lg) y.torn, y.hd, y.hc, y.hp, y.hw, ho6] _ rfl rfl ⟨y.d, y.w, y.torn, _, _, y.bq, y.hd, y.hc, y.hp, y.hw, ho6, rfl, dp6, hs6⟩
   | none =>
    rw [hal] at hwt
    have hq : helloS s x.fr.rg.toNat x.fr.nd x.ep = (s.heard x.fr.rg.toNat x.fr.nd, if x.ep < (s.ch x.fr.rg.toNat).ep then [tellM s.dc x.fr.rg.toNat x.fr.nd (s.ch x.fr.rg.toNat).cfg] else []) := by unfold helloS; rw [hal]
    rw [hq]
    have htold := dtold_ct b (s.dt d w (.slice cp s.rn cc) (.slice wp s.rn wc)) hrc hgc x.fr.nd
    rw [hrI] at htold
    refine W.mixA 8 (List.replicate 10 true ++ [false, true, true, true, false, false, true]) 14 [[(b3, .cells (List.toArray x.enc) 54 (0, 0))], DtBk b (s.dt d w (.slice cp s.rn cc) (.slice wp s.rn wc)), hc] Tryz.mix (by kernel_rfl) rfl ?_
    repeat' (first | refine go ?_ | refine mv ?_ | (refine I.ld ?_; refine ld rfl ?_) | refine asg ?_ | (refine I.fa ?_; refine fa ?_) | (refine I.nc ?_; refine nc ?_) | (refine I.cond ?_; refine cF ?_) | refine mN ?_ | refine WX.nil ?_ | refine mU ?_ | refine mA ?_ | (refine I.ix ?_; refine iI rfl rfl ?_) | refine ex ?_ | refine al (fun _ => ?_) | (refine I.ld ?_; refine WX.loadEW rfl hrc hgc rfl rfl ?_) | (refine I.cl ?_; refine WX.callQ rfl hwt rfl ?_) | (refine I.st ?_; refine sGW Cfg.z.enc Cfg.z.enc rfl rfl ?_) | refine WA.un ?_ | refine WA.backU ?_ | refine WA.back ?_ | refine WA.an ?_ ?_ | refine WA.nil ?_ | fail)
    all_goals
     refine W.quiet Tryz.mix (by kernel_rfl) ?_
     by_cases hep : x.ep < (s.ch x.fr.rg.toNat).cfg.ep
     ·have hep' : x.ep < (s.ch x.fr.rg.toNat).ep := hep
      repeat' (first | refine go ?_ | refine mv ?_ | (refine I.ld ?_; first | refine ld rfl ?_ | refine lE rfl (by assumption) ?_) | (refine I.fa ?_; first | refine fa ?_ | refine fE rfl ?_) | (refine I.nc ?_; refine nc ?_) | (refine I.bin ?_; refine cm rfl rfl ?_) | (refine I.cond ?_; refine cP ?_) | (refine I.ix ?_; refine iI rfl rfl ?_) | (refine I.cl ?_; refine WX.callQ rfl htold rfl ?_) | fail)
      refine I.bs ?_
      refine WX.lit (ys := [tellM s.dc x.fr.rg.toNat x.fr.nd (s.ch x.fr.rg.toNat).cfg]) rfl rfl rfl rfl rfl rfl (by decide) rfl (fun v5 h5 hs5 => ?_)
      skip
      refine WX.app rfl rfl (IsSl.nil (α := Msg) _) hs5.rs rfl rfl (by decide) (by simp only [List.length_cons, List.length_nil]; omega) rfl (fun v6 h6 hs6 => ?_)
      rw [List.nil_append] at hs6
      repeat' (first | refine go ?_ | refine mv ?_ | refine asg ?_ | fail)
      exact D.fin1 [DtBk b (s.dt d w (.slice cp s.rn cc) (.slice wp s.rn wc)), VBk w d (lastN s.lg) torn, hd, hc, hp, hw', h6] _ rfl rfl ⟨d, w, torn, _, _, bq, hd, hc, hp, hw', h6, rfl, dpt, by simp only []; rw [if_pos hep']; exact hs6⟩
     ·have hep' : ¬ x.ep < (s.ch x.fr.rg.toNat).ep := hep
      repeat' (first | refine go ?_ | refine mv ?_ | (refine I.ld ?_; first | refine ld rfl ?_ | refine lE rfl (by assumption) ?_) | refine asg ?_ | (refine I.fa ?_; first | refine fa ?_ | refine fE rfl ?_) | (refine I.nc ?_; refine nc ?_) | (refine I.bin ?_; refine cm rfl rfl ?_) | (refine I.cond ?_; refine cN ?_) | (refine I.ix ?_; refine iI rfl rfl ?_) | fail)
      refine D.nilH ?_
      exact D.fin1 [DtBk b (s.dt d w (.slice cp s.rn cc) (.slice wp s.rn wc)), VBk w d (lastN s.lg) torn, hd, hc, hp, hw', []] _ rfl rfl ⟨d, w, torn, _, _, bq, hd, hc, hp, hw', [], rfl, dpt, by simp only []; rw [if_neg hep']; exact IsSl.nil _⟩
 by_cases k11 : x.kind = 11
 ·cases hnb : nodeB s x.fr with
  | false =>
   rw [hnb] at hnd
   have hS : handleS s x = (s, []) := by unfold handleS; rw [if_neg (by rw [hup]; decide), if_neg k1, if_pos hnb]
   rw [hS]
   skip
   refine Ct.mk' Tryz.func37 rfl rfl rfl (fun g R => ?_)
   try simp only [List.cons_append]
   simp only [List.nil_append]
   repeat' (first | refine go ?_ | refine mv ?_ | (refine I.ld ?_; refine ld rfl ?_) | refine asg ?_ | (refine I.fa ?_; refine fa ?_) | (refine I.nc ?_; refine nc ?_) | (refine I.un ?_; refine nt ?_) | refine bx rfl (fun _ => ?_) | fail)
   rename_i b3
   rw [hupd]
   repeat' (first | refine go ?_ | (refine I.ld ?_; refine ld rfl ?_) | refine asg ?_ | (refine I.fa ?_; refine fa ?_) | (refine I.bin ?_; refine cm rfl rfl ?_) | (refine I.cond ?_; first | refine cF ?_ | refine cP ?_ | refine cN ?_) | fail)
   refine W.quiet Tryz.mix (by kernel_rfl) ?_
   repeat' (first | refine go ?_ | refine mv ?_ | refine asg ?_ | (refine I.gd ?_; refine gn ?_) | (refine I.fa ?_; refine fa ?_) | (refine I.pk ?_; refine pT ?_) | (refine I.cond ?_; refine cT ?_) | (refine I.un ?_; refine nt ?_) | (refine I.ld ?_; refine lAN (t := 42) (Msg.enc x) (Ad4.enc x.fr) rfl ?_) | (refine I.cl ?_; refine WX.callQ rfl hnd rfl ?_) | fail)
   refine D.nilH ?_
   exact D.fin1 [DtBk b (s.dt d w (.slice cp s.rn cc) (.slice wp s.rn wc)), VBk w d (lastN s.lg) torn, hd, hc, hp, hw, []] _ rfl rfl ⟨d, w, torn, _, _, bq, hd, hc, hp, hw, [], rfl, dp, IsSl.nil _⟩
  | true =>
   rw [hnb] at hnd
   obtain ⟨hk, hr0, hn0, hn1⟩ := nodeB_rg hnb
   have hrI : ((x.fr.rg.toNat : Nat) : Int) = x.fr.rg := Int.toNat_of_nonneg hr0
   have hS : handleS s x = caughtS s x.fr.rg.toNat x.ep := by unfold handleS; rw [if_neg (by rw [hup]; decide), if_neg k1, if_neg (by rw [hnb]; decide), if_neg k10, if_pos k11]
   rw [hS]
   have hgw := dgrow_ct (ok.ch _ hk)
   have hgc := cfs_get hk
   have hrlt : x.fr.rg < (s.rn : Int) := by omega
   by_cases hep : x.ep = (s.ch x.fr.rg.toNat).cfg.ep
   ·have hep' : x.ep = (s.ch x.fr.rg.toNat).ep := hep
    skip
    refine Ct.mk' Tryz.func37 rfl rfl rfl (fun g R => ?_)
    try simp only [List.cons_append]
    simp only [List.nil_append]
    repeat' (first | refine go ?_ | refine mv ?_ | (refine I.ld ?_; refine ld rfl ?_) | refine asg ?_ | (refine I.fa ?_; refine fa ?_) | (refine I.nc ?_; refine nc ?_) | (refine I.un ?_; refine nt ?_) | refine bx rfl (fun _ => ?_) | fail)
    rename_i b3
    rw [hupd]
    repeat' (first | refine go ?_ | (refine I.ld ?_; refine ld rfl ?_) | refine asg ?_ | (refine I.fa ?_; refine fa ?_) | (refine I.bin ?_; refine cm rfl rfl ?_) | (refine I.cond ?_; first | refine cF ?_ | refine cP ?_ | refine cN ?_) | fail)
    refine W.quiet Tryz.mix (by kernel_rfl) ?_
    repeat' (first | refine go ?_ | refine mv ?_ | (refine I.ld ?_; first | refine ld rfl ?_ | refine lE rfl (by assumption) ?_) | (refine I.gd ?_; refine gy ?_) | (refine I.fa ?_; first | refine fa ?_ | refine fE rfl ?_) | (refine I.nc ?_; refine nc ?_) | (refine I.bin ?_; refine cm rfl rfl ?_) | (refine I.pk ?_; refine pF ?_) | (refine I.cond ?_; refine cN ?_) | (refine I.ix ?_; refine iI rfl rfl ?_) | (refine I.un ?_; refine nt ?_) | (refine I.ld ?_; refine lAN (t := 42) (Msg.enc x) (Ad4.enc x.fr) rfl ?_) | (refine I.cl ?_; refine WX.callQ rfl hnd rfl ?_) | fail)
    cases hgl : growL (s.ch x.fr.rg.toNat) with
    | some c =>
     rw [hgl] at hgw
     have hck := (ok.ch _ hk).growL hgl
     have hlay := dlayR_ct ok b (x := ⟨d, w, torn, cp, cc, wp, wc, bq, hd, hc, hp, hw⟩) dp hk hck
     rw [hrI] at hlay
     change Ct _ _ _ [DtBk b (s.dt d w (.slice cp s.rn cc) (.slice wp s.rn wc)), VBk w d (lastN s.lg) torn, hd, hc, hp, hw] _ at hlay
     have hq : caughtS s x.fr.rg.toNat x.ep = layS s x.fr.rg.toNat c := by unfold caughtS; rw [hgl]; exact if_pos hep'
     rw [hq]
     refine W.mixA 8 (List.replicate 9 true ++ [false, true, true, true, false, false, true]) 13 [[(b3, .cells (List.toArray x.enc) 54 (0, 0))], DtBk b (s.dt d w (.slice cp s.rn cc) (.slice wp s.rn wc)), hc] Tryz.mix (by kernel_rfl) rfl ?_
     repeat' (first | refine go ?_ | refine mv ?_ | (refine I.ld ?_; refine ld rfl ?_) | refine asg ?_ | (refine I.fa ?_; refine fa ?_) | (refine I.nc ?_; refine nc ?_) | (refine I.cond ?_; refine cT ?_) | refine mN ?_ | refine WX.nil ?_ | refine mU ?_ | refine mA ?_ | (refine I.ix ?_; refine iI rfl rfl ?_) | refine ex ?_ | refine al (fun _ => ?_) | (refine I.ld ?_; first | refine WX.loadEW rfl hrc hgc rfl rfl ?_ | refine lAN (t := 38) c.cfg.enc c.cfg.enc rfl ?_) | (refine I.cl ?_; refine WX.callQ rfl hgw rfl ?_) | (refine I.st ?_; refine sGW Cfg.z.enc c.cfg.enc rfl rfl ?_) | refine WA.un ?_ | refine WA.backU ?_ | refine WA.back ?_ | refine WA.an ?_ ?_ | refine WA.nil ?_ | fail)
     all_goals
      refine WX.call rfl hlay rfl ?_
      rintro v6 _ ⟨y, ho6, rfl, dp6, hs6⟩
      simp only [List.cons_append, List.nil_append]
      repeat' (first | refine go ?_ | refine asg ?_ | fail)
      exact D.fin1 [DtBk b ((layS s x.fr.rg.toNat c).1.dt y.d y.w (y.cs (layS s x.fr.rg.toNat c).1) (y.ws (layS s x.fr.rg.toNat c).1)), VBk y.w y.d (lastN (layS s x.fr.rg.toNat c).1.lg) y.torn, y.hd, y.hc, y.hp, y.hw, ho6] _ rfl rfl ⟨y.d, y.w, y.torn, _, _, y.bq, y.hd, y.hc, y.hp, y.hw, ho6, rfl, dp6, hs6⟩
    | none =>
     rw [hgl] at hgw
     have hq : caughtS s x.fr.rg.toNat x.ep = (s, []) := by unfold caughtS; rw [hgl]
     rw [hq]
     refine W.mixA 8 (List.replicate 9 true ++ [false, true, true, true, false, false, true]) 13 [[(b3, .cells (List.toArray x.enc) 54 (0, 0))], DtBk b (s.dt d w (.slice cp s.rn cc) (.slice wp s.rn wc)), hc] Tryz.mix (by kernel_rfl) rfl ?_
     repeat' (first | refine go ?_ | refine mv ?_ | (refine I.ld ?_; refine ld rfl ?_) | refine asg ?_ | (refine I.fa ?_; refine fa ?_) | (refine I.nc ?_; refine nc ?_) | (refine I.cond ?_; refine cF ?_) | refine mN ?_ | refine WX.nil ?_ | refine mU ?_ | refine mA ?_ | (refine I.ix ?_; refine iI rfl rfl ?_) | refine ex ?_ | refine al (fun _ => ?_) | (refine I.ld ?_; refine WX.loadEW rfl hrc hgc rfl rfl ?_) | (refine I.cl ?_; refine WX.callQ rfl hgw rfl ?_) | (refine I.st ?_; refine sGW Cfg.z.enc Cfg.z.enc rfl rfl ?_) | refine WA.un ?_ | refine WA.backU ?_ | refine WA.back ?_ | refine WA.an ?_ ?_ | refine WA.nil ?_ | fail)
     all_goals
      refine D.nilH ?_
      exact D.fin1 [DtBk b (s.dt d w (.slice cp s.rn cc) (.slice wp s.rn wc)), VBk w d (lastN s.lg) torn, hd, hc, hp, hw, []] _ rfl rfl ⟨d, w, torn, _, _, bq, hd, hc, hp, hw, [], rfl, dp, IsSl.nil _⟩
   ·have hep' : ¬ x.ep = (s.ch x.fr.rg.toNat).ep := hep
    have hq : caughtS s x.fr.rg.toNat x.ep = (s, []) := by
     unfold caughtS
     split
     ·exact if_neg hep'
     ·rfl
    rw [hq]
    skip
    refine Ct.mk' Tryz.func37 rfl rfl rfl (fun g R => ?_)
    try simp only [List.cons_append]
    simp only [List.nil_append]
    repeat' (first | refine go ?_ | refine mv ?_ | (refine I.ld ?_; refine ld rfl ?_) | refine asg ?_ | (refine I.fa ?_; refine fa ?_) | (refine I.nc ?_; refine nc ?_) | (refine I.un ?_; refine nt ?_) | refine bx rfl (fun _ => ?_) | fail)
    rename_i b3
    rw [hupd]
    repeat' (first | refine go ?_ | (refine I.ld ?_; refine ld rfl ?_) | refine asg ?_ | (refine I.fa ?_; refine fa ?_) | (refine I.bin ?_; refine cm rfl rfl ?_) | (refine I.cond ?_; first | refine cF ?_ | refine cP ?_ | refine cN ?_) | fail)
    refine W.quiet Tryz.mix (by kernel_rfl) ?_
    repeat' (first | refine go ?_ | refine mv ?_ | (refine I.ld ?_; first | refine ld rfl ?_ | refine lE rfl (by assumption) ?_) | refine asg ?_ | (refine I.gd ?_; refine gy ?_) | (refine I.fa ?_; first | refine fa ?_ | refine fE rfl ?_) | (refine I.nc ?_; refine nc ?_) | (refine I.bin ?_; refine cm rfl rfl ?_) | (refine I.pk ?_; refine pF ?_) | (refine I.cond ?_; refine cP ?_) | (refine I.ix ?_; refine iI rfl rfl ?_) | (refine I.un ?_; refine nt ?_) | (refine I.ld ?_; refine lAN (t := 42) (Msg.enc x) (Ad4.enc x.fr) rfl ?_) | (refine I.cl ?_; refine WX.callQ rfl hnd rfl ?_) | fail)
    refine D.nilH ?_
    exact D.fin1 [DtBk b (s.dt d w (.slice cp s.rn cc) (.slice wp s.rn wc)), VBk w d (lastN s.lg) torn, hd, hc, hp, hw, []] _ rfl rfl ⟨d, w, torn, _, _, bq, hd, hc, hp, hw, [], rfl, dp, IsSl.nil _⟩
 ·have hS : handleS s x = (s, []) := by
   unfold handleS; rw [if_neg (by rw [hup]; decide), if_neg k1]
   rw [if_neg k10, if_neg k11]
   split <;> rfl
  rw [hS]
  skip
  refine Ct.mk' Tryz.func37 rfl rfl rfl (fun g R => ?_)
  try simp only [List.cons_append]
  simp only [List.nil_append]
  repeat' (first | refine go ?_ | refine mv ?_ | (refine I.ld ?_; refine ld rfl ?_) | refine asg ?_ | (refine I.fa ?_; refine fa ?_) | (refine I.nc ?_; refine nc ?_) | (refine I.un ?_; refine nt ?_) | refine bx rfl (fun _ => ?_) | fail)
  rename_i b3
  rw [hupd]
  repeat' (first | refine go ?_ | refine mv ?_ | (refine I.ld ?_; refine ld rfl ?_) | refine asg ?_ | (refine I.fa ?_; refine fa ?_) | (refine I.bin ?_; refine cm rfl rfl ?_) | (refine I.cond ?_; first | refine cF ?_ | refine cN ?_) | fail)
  refine D.nilH ?_
  exact D.fin1 [DtBk b (s.dt d w (.slice cp s.rn cc) (.slice wp s.rn wc)), VBk w d (lastN s.lg) torn, hd, hc, hp, hw, []] _ rfl rfl ⟨d, w, torn, _, _, bq, hd, hc, hp, hw, [], rfl, dp, IsSl.nil _⟩
theorem dhandle_ct {s : MS} (ok : MsOk s) {b : Nat} {h : Hp} (hm : IsDs s b h) (x : Msg) :
  Ct Tryz.prog 37 [.pointer (some ⟨b, 0, none⟩), .agg (List.toArray x.enc)] [h] (DsPost (handleS s x) b) := by
 cases hup : s.up with
 | false => exact dhandleDn_ct hm hup x
 | true => exact dhandleUp_ct ok hm hup x
end Go.Proofs.YtfcefidmdijjkaaGreat

namespace Go.Proofs.YtfcefidmdijjkaaGreat
open Go Go.Sl
def rlB (a b c e : Int) : Bool := decide ((1 ≤ a ∧ a ≤ 3) ∧ (1 ≤ b ∧ b ≤ 3) ∧ (1 ≤ c ∧ c ≤ 4) ∧ (1 ≤ e ∧ e ≤ 4))
theorem drl_ct (a b c e : Int) : Ct Tryz.prog 29 [.agg (List.toArray (LayV a b c e))] [] (fun v H' => v = .bool (rlB a b c e) ∧ H' = []) := by
 unfold rlB LayV
 by_cases h1 : 1 ≤ a
 ·by_cases h2 : a ≤ 3
  ·by_cases h3 : 1 ≤ b
   ·by_cases h4 : b ≤ 3
    ·by_cases h5 : 1 ≤ c
     ·by_cases h6 : c ≤ 4
      ·by_cases h7 : 1 ≤ e
       ·refine Ct.mk' Tryz.func29 rfl rfl rfl (fun g R => ?_)
        try simp only [List.cons_append]
        simp only [List.nil_append]
        repeat' (first | refine go ?_ | refine mv ?_ | (refine I.ld ?_; refine ld rfl ?_) | refine asg ?_ | (refine I.gd ?_; first | refine gy ?_ | refine gT ?_) | (refine I.fa ?_; refine fa ?_) | (refine I.bin ?_; refine cm rfl rfl ?_) | (refine I.pk ?_; refine pT ?_) | refine bx rfl (fun _ => ?_) | fail)
        exact D.fin1 [] _ rfl rfl ⟨by simp [h1, h2, h3, h4, h5, h6, h7], rfl⟩
       ·refine Ct.mk' Tryz.func29 rfl rfl rfl (fun g R => ?_)
        try simp only [List.cons_append]
        simp only [List.nil_append]
        repeat' (first | refine go ?_ | refine mv ?_ | (refine I.ld ?_; refine ld rfl ?_) | refine asg ?_ | (refine I.gd ?_; first | refine gy ?_ | refine gn ?_ | refine gT ?_ | refine gF ?_) | (refine I.fa ?_; refine fa ?_) | (refine I.bin ?_; refine cm rfl rfl ?_) | (refine I.pk ?_; first | refine pT ?_ | refine pF ?_) | refine bx rfl (fun _ => ?_) | fail)
        exact D.fin1 [] _ rfl rfl ⟨by simp [h7], rfl⟩
      ·refine Ct.mk' Tryz.func29 rfl rfl rfl (fun g R => ?_)
       try simp only [List.cons_append]
       simp only [List.nil_append]
       repeat' (first | refine go ?_ | refine mv ?_ | (refine I.ld ?_; refine ld rfl ?_) | refine asg ?_ | (refine I.gd ?_; first | refine gy ?_ | refine gn ?_ | refine gT ?_ | refine gF ?_) | (refine I.fa ?_; refine fa ?_) | (refine I.bin ?_; refine cm rfl rfl ?_) | (refine I.pk ?_; first | refine pT ?_ | refine pF ?_) | refine bx rfl (fun _ => ?_) | fail)
       exact D.fin1 [] _ rfl rfl ⟨by simp [h6], rfl⟩
     ·refine Ct.mk' Tryz.func29 rfl rfl rfl (fun g R => ?_)
      try simp only [List.cons_append]
      simp only [List.nil_append]
      repeat' (first | refine go ?_ | refine mv ?_ | (refine I.ld ?_; refine ld rfl ?_) | refine asg ?_ | (refine I.gd ?_; first | refine gy ?_ | refine gn ?_ | refine gT ?_ | refine gF ?_) | (refine I.fa ?_; refine fa ?_) | (refine I.bin ?_; refine cm rfl rfl ?_) | (refine I.pk ?_; first | refine pT ?_ | refine pF ?_) | refine bx rfl (fun _ => ?_) | fail)
      exact D.fin1 [] _ rfl rfl ⟨by simp [h5], rfl⟩
    ·refine Ct.mk' Tryz.func29 rfl rfl rfl (fun g R => ?_)
     try simp only [List.cons_append]
     simp only [List.nil_append]
     repeat' (first | refine go ?_ | refine mv ?_ | (refine I.ld ?_; refine ld rfl ?_) | refine asg ?_ | (refine I.gd ?_; first | refine gy ?_ | refine gn ?_ | refine gT ?_ | refine gF ?_) | (refine I.fa ?_; refine fa ?_) | (refine I.bin ?_; refine cm rfl rfl ?_) | (refine I.pk ?_; first | refine pT ?_ | refine pF ?_) | refine bx rfl (fun _ => ?_) | fail)
     exact D.fin1 [] _ rfl rfl ⟨by simp [h4], rfl⟩
   ·refine Ct.mk' Tryz.func29 rfl rfl rfl (fun g R => ?_)
    try simp only [List.cons_append]
    simp only [List.nil_append]
    repeat' (first | refine go ?_ | refine mv ?_ | (refine I.ld ?_; refine ld rfl ?_) | refine asg ?_ | (refine I.gd ?_; first | refine gy ?_ | refine gn ?_ | refine gT ?_ | refine gF ?_) | (refine I.fa ?_; refine fa ?_) | (refine I.bin ?_; refine cm rfl rfl ?_) | (refine I.pk ?_; first | refine pT ?_ | refine pF ?_) | refine bx rfl (fun _ => ?_) | fail)
    exact D.fin1 [] _ rfl rfl ⟨by simp [h3], rfl⟩
  ·refine Ct.mk' Tryz.func29 rfl rfl rfl (fun g R => ?_)
   try simp only [List.cons_append]
   simp only [List.nil_append]
   repeat' (first | refine go ?_ | refine mv ?_ | (refine I.ld ?_; refine ld rfl ?_) | refine asg ?_ | (refine I.gd ?_; first | refine gy ?_ | refine gn ?_ | refine gT ?_ | refine gF ?_) | (refine I.fa ?_; refine fa ?_) | (refine I.bin ?_; refine cm rfl rfl ?_) | (refine I.pk ?_; first | refine pT ?_ | refine pF ?_) | refine bx rfl (fun _ => ?_) | fail)
   exact D.fin1 [] _ rfl rfl ⟨by simp [h2], rfl⟩
 ·refine Ct.mk' Tryz.func29 rfl rfl rfl (fun g R => ?_)
  try simp only [List.cons_append]
  simp only [List.nil_append]
  repeat' (first | refine go ?_ | refine mv ?_ | (refine I.ld ?_; refine ld rfl ?_) | refine asg ?_ | (refine I.gd ?_; first | refine gn ?_ | refine gF ?_) | (refine I.fa ?_; refine fa ?_) | (refine I.bin ?_; refine cm rfl rfl ?_) | (refine I.pk ?_; refine pF ?_) | refine bx rfl (fun _ => ?_) | fail)
  exact D.fin1 [] _ rfl rfl ⟨by simp [h1], rfl⟩
theorem dnewBad_ct {a b c e dc : Int} (hbad : ¬ OkL a b c e dc) :
  Ct Tryz.prog 9 [.agg (List.toArray (LayV a b c e)), .int .i64 dc] [] (fun v H' => v = .tuple (List.toArray [.pointer none, .int .i64 1]) ∧ H' = []) := by
 have hrl := drl_ct a b c e
 unfold LayV at hrl ⊢
 by_cases hr : rlB a b c e = true
 ·rw [hr] at hrl
  have hr' := of_decide_eq_true (show decide _ = true from hr)
  by_cases h0 : dc < 0
  ·refine Ct.mk' Tryz.func9 rfl rfl rfl (fun g R => ?_)
   try simp only [List.cons_append]
   simp only [List.nil_append]
   repeat' (first | refine go ?_ | refine mv ?_ | (refine I.ld ?_; refine lA rfl ?_) | refine asg ?_ | (refine I.gd ?_; first | refine gy ?_ | refine gn ?_ | refine gT ?_) | (refine I.bin ?_; refine cm rfl rfl ?_) | (refine I.pk ?_; first | refine pT ?_ | refine pF ?_) | (refine I.cond ?_; refine cT ?_) | (refine I.un ?_; refine nt ?_) | refine bx rfl (fun _ => ?_) | (refine I.cl ?_; refine WX.callQ rfl hrl rfl ?_) | fail)
   exact D.fin2 [] _ rfl rfl rfl ⟨rfl, rfl⟩
  ·have h1 : a ≤ dc := by
    rcases Int.lt_or_le dc a with h | h
    ·exact absurd ⟨hr'.1, hr'.2.1, hr'.2.2.1, hr'.2.2.2, by omega⟩ hbad
    ·exact h
   refine Ct.mk' Tryz.func9 rfl rfl rfl (fun g R => ?_)
   try simp only [List.cons_append]
   simp only [List.nil_append]
   repeat' (first | refine go ?_ | refine mv ?_ | (refine I.ld ?_; first | refine ld rfl ?_ | refine lA rfl ?_) | refine asg ?_ | (refine I.gd ?_; first | refine gy ?_ | refine gF ?_) | (refine I.fa ?_; refine fa ?_) | (refine I.bin ?_; refine cm rfl rfl ?_) | (refine I.pk ?_; refine pF ?_) | (refine I.cond ?_; refine cP ?_) | (refine I.un ?_; refine nt ?_) | refine bx rfl (fun _ => ?_) | (refine I.cl ?_; refine WX.callQ rfl hrl rfl ?_) | fail)
   exact D.fin2 [] _ rfl rfl rfl ⟨rfl, rfl⟩
 ·have hr : rlB a b c e = false := by simpa using hr
  rw [hr] at hrl
  refine Ct.mk' Tryz.func9 rfl rfl rfl (fun g R => ?_)
  try simp only [List.cons_append]
  simp only [List.nil_append]
  repeat' (first | refine go ?_ | refine mv ?_ | (refine I.ld ?_; refine lA rfl ?_) | refine asg ?_ | (refine I.gd ?_; refine gn ?_) | (refine I.pk ?_; refine pT ?_) | (refine I.cond ?_; refine cT ?_) | (refine I.un ?_; refine nt ?_) | refine bx rfl (fun _ => ?_) | (refine I.cl ?_; refine WX.callQ rfl hrl rfl ?_) | fail)
  exact D.fin2 [] _ rfl rfl rfl ⟨rfl, rfl⟩
set_option maxRecDepth 4000 in
theorem dlayN_ct (b : Nat) (m : Dt) {nn : Nat} (hnn : m.nn = (nn : Int)) (n4 : nn ≤ 4) {l : List Lf} (okl : MLog l) {hd : Hp} {T : Int} (hdk : RD l m.d hd T) (hT0 : 0 ≤ T) (hT : T ≤ 274877906944) {torn : Int} {cfs : List Cfg} {hc : Hp} (hsc : IsSl 38 cfs m.cs hc)
  {r : Nat} (hr : r ≤ 1000) (hrl : r < cfs.length) {c : Cfg} (hck : CfgN c) (hrm : roomB l 1 = true) :
  Ct Tryz.prog 34 [.pointer (some ⟨b, 0, none⟩), .int .i64 (r : Int), .agg (List.toArray c.enc)] [DtBk b m, VBk m.w m.d (lastN l) torn, hd, hc]
   (fun v H' => ∃ hd' hc' ho, H' = [DtBk b m, VBk m.w m.d (lastN (layL l r c)) torn, hd', hc', ho] ∧ RD (layL l r c) m.d hd' (T + 243) ∧ IsSl 38 (cfs.set r c) m.cs hc') := by
 have hroomc := vroom_ct okl.ok hdk (w := m.w) (seg := lastN l) (torn := torn) 1
 rw [hrm] at hroomc
 obtain ⟨g1, g2, g3⟩ := lay_log okl (r := r) hr hck hrm
 obtain ⟨c0, hget⟩ : ∃ c0, cfs[r]? = some c0 := ⟨_, List.getElem?_eq_getElem hrl⟩
 refine Ct.mk' Tryz.func34 rfl rfl rfl (fun g R => ?_)
 try simp only [List.cons_append]
 simp only [List.nil_append]
 repeat' (first | refine go ?_ | refine mv ?_ | (refine I.ld ?_; refine ld rfl ?_) | refine asg ?_ | (refine I.fa ?_; refine fa ?_) | (refine I.nc ?_; refine nc ?_) | (refine I.cond ?_; refine cF ?_) | (refine I.un ?_; refine nt ?_) | refine bx rfl (fun _ => ?_) | (refine I.cl ?_; refine WX.callQ rfl hroomc rfl ?_) | fail)
 rename_i b5
 refine W.nilH ?_
 refine W.mixN 8 (List.replicate 8 true ++ [false, false, false]) [DtBk b m, [(b5, .cells (List.toArray c.enc) 38 (0, 0))]] Tryz.mix (by kernel_rfl) ?_
 repeat' (first | refine go ?_ | refine mv ?_ | (refine I.ld ?_; refine ld rfl ?_) | (refine I.fa ?_; refine fa ?_) | (refine I.nc ?_; refine nc ?_) | refine mU ?_ | refine mA ?_ | (refine I.bd ?_; refine bdN (recE r c).enc ?_) | (refine I.ld ?_; refine lAN c.enc c.enc rfl ?_) | fail)
 refine I.bs ?_
 refine WX.lit (ys := [recE r c]) rfl rfl rfl rfl rfl rfl (by decide) rfl (fun v2 h2 hs2 => ?_)
 repeat' (first | refine go ?_ | refine mA ?_ | fail)
 refine WX.app rfl rfl (IsSl.nil (α := Rec) _) hs2.rs rfl rfl (by decide) (by simp only [List.length_cons, List.length_nil]; omega) rfl (fun v3 h3 hs3 => ?_)
 rw [List.nil_append] at hs3
 repeat' (first | refine go ?_ | refine mA ?_ | fail)
 refine WX.call rfl (vadd_ct okl.ok hdk hs3.rs (by simp only [List.length_cons, List.length_nil]; omega) hT0 hT (by intro x hx; rw [List.mem_singleton.1 hx]; exact Nat.zero_le _) (w := m.w) (torn := torn)) rfl ?_
 rintro _ _ ⟨h4, rfl, rfl, hd4⟩
 rw [ladd_1] at hd4 ⊢
 have hd5 : RD (ladd1 l (recE r c)).1 m.d h4 (T + 243) := hd4.mono (by simp only [List.length_cons, List.length_nil]; omega)
 simp only [List.cons_append, List.nil_append]
 repeat' (first | refine go ?_ | refine mv ?_ | (refine I.ld ?_; refine ld rfl ?_) | (refine I.fa ?_; refine fa ?_) | (refine I.nc ?_; refine nc ?_) | refine mN ?_ | refine WX.nil ?_ | fail)
 refine WX.call rfl (vsync_ct (w := m.w) (torn := torn) (seg := lastN (ladd1 l (recE r c)).1) (by have := okl.ok.add1 (recE r c); exact this) hd5) rfl ?_
 rintro _ _ ⟨h5, rfl, hd6⟩
 simp only [List.cons_append, List.nil_append]
 repeat' (first | refine go ?_ | fail)
 refine W.mixN 8 (List.replicate 7 true) [DtBk b m, [(b5, .cells (List.toArray c.enc) 38 (0, 0))]] Tryz.mix (by kernel_rfl) ?_
 have hrc := hsc.rs
 repeat' (first | refine go ?_ | refine mv ?_ | (refine I.ld ?_; refine ld rfl ?_) | (refine I.fa ?_; refine fa ?_) | (refine I.nc ?_; refine nc ?_) | refine mN ?_ | refine mU ?_ | (refine I.ix ?_; refine ix rfl rfl ?_) | (refine I.ld ?_; refine lAN c.enc c.enc rfl ?_) | fail)
 refine I.st ?_
 refine WX.storeE (y' := c) (vs := Enc.enc c) rfl rfl rfl hsc hget rfl rfl rfl (setAt_whole rfl) rfl (fun h6 hs6 => ?_)
 refine WX.nil ?_
 repeat' (first | refine go ?_ | refine asg ?_ | fail)
 refine W.nilH ?_
 have hr6 := hs6.rs
 have hget6 : (cfs.set r c)[r]? = some c := by rw [List.getElem?_set]; simp [hrl]
 refine W.loop (α := Nat × Value × Hp) (fun x => x.1 ≤ nn ∧ IsSl 54 (tells m.dc r x.1 c) x.2.1 x.2.2)
  (fun x => [(0, .pointer (some ⟨b, 0, none⟩)), (1, .int .i64 (r : Int)), (8, x.2.1), (9, .int .i64 (x.1 : Int))]) (fun x => [x.2.2, DtBk b m, h6, VBk m.w m.d (lastN (ladd1 l (recE r c)).1) torn, h5, R]) (fun x => nn - x.1) (0, .slice none 0 0, []) ⟨Nat.zero_le _, IsSl.nil _⟩ (by repeat (first | exact Fsub.nil | refine Fsub.cons rfl ?_)) (Hsub.of_picks inferInstance) ?_
 rintro ⟨k, v, ho⟩ ⟨hk, hs⟩
 simp only [] at hk hs ⊢
 have htl : (tells m.dc r k c).length ≤ 4 := by rw [tells_len]; omega
 by_cases hlt : k < nn
 ·have htold := dtold_ct b m hr6 hget6 (k : Int)
  repeat' (first | refine go ?_ | refine mv ?_ | (refine I.ld ?_; refine ld rfl ?_) | (refine I.fa ?_; refine fa ?_) | (refine I.nc ?_; refine nc ?_) | (refine I.bin ?_; refine cm rfl rfl ?_) | (refine I.cond ?_; refine cP ?_) | fail)
  refine WX.callQ rfl htold rfl ?_
  refine I.bs ?_
  refine WX.lit (ys := [tellM m.dc r (k : Int) c]) rfl rfl rfl rfl rfl rfl (by decide) rfl (fun v5 h7 hs7 => ?_)
  skip
  refine WX.app rfl rfl hs hs7.rs rfl rfl (by decide) (by simp only [List.length_cons, List.length_nil]; omega) rfl (fun v6 h8 hs8 => ?_)
  rw [← tells_succ] at hs8
  repeat' (first | refine go ?_ | refine mv ?_ | refine asg ?_ | (refine I.bin ?_; refine ad ?_) | fail)
  exact D.round (k + 1, v6, h8) ⟨by simp only []; omega, hs8⟩ (by simp only []; omega) (by repeat (first | exact Fsub.nil | refine Fsub.cons rfl ?_)) (Hsub.of_picks inferInstance)
 ·obtain rfl : k = nn := by omega
  repeat' (first | refine go ?_ | refine mv ?_ | (refine I.ld ?_; refine ld rfl ?_) | refine asg ?_ | (refine I.fa ?_; refine fa ?_) | (refine I.nc ?_; refine nc ?_) | (refine I.bin ?_; refine cm rfl rfl ?_) | (refine I.cond ?_; refine cN ?_) | fail)
  exact D.fin1 [DtBk b m, VBk m.w m.d (lastN (ladd1 l (recE r c)).1) torn, h5, h6, ho] _ rfl rfl ⟨h5, h6, ho, by unfold layL; rw [lastN_sync], hd6, hs6⟩
end Go.Proofs.YtfcefidmdijjkaaGreat

namespace Go.Proofs.YtfcefidmdijjkaaGreat
open Go Go.Sl
structure NR where
 cp : Option Addr
 cc : Nat
 wp : Option Addr
 wc : Nat
 bq : Nat → Nat
 (hd hc hp hw : Hp)
structure NR.Ok (x : NR) (nn d k : Nat) : Prop where
 d : RD (newL nn k) d x.hd (243 * (k : Int))
 c : IsSl 38 (rowF k fun _ => (firstCh nn).cfg) (.slice x.cp k x.cc) x.hc
 p : IsSl 95 (ptrs k x.bq) (.slice x.wp k x.wc) x.hp
 w : Wn RTy k x.bq (fun _ => List.replicate nn 0) x.hw
set_option maxRecDepth 4000 in
theorem dnewOk_ct {a e dc : Int} {rn nn : Nat} (hok : OkL a rn nn e dc) :
  Ct Tryz.prog 9 [.agg (List.toArray (LayV a rn nn e)), .int .i64 dc] [] (fun v H' => ∃ b h', v = .tuple (List.toArray [.pointer (some ⟨b, 0, none⟩), .int .i64 0]) ∧ H' = [h'] ∧ IsDs (newS a rn nn e dc) b h') := by
 have hrl := drl_ct a rn nn e
 obtain ⟨ha, hb, hc, he, hdc⟩ := hok
 have n1 : 1 ≤ nn := by omega
 have n4 : nn ≤ 4 := by omega
 rw [show rlB a rn nn e = true from decide_eq_true ⟨ha, hb, hc, he⟩] at hrl
 have hfc := dfirst_ct n1 n4
 obtain ⟨s, hs⟩ : ∃ s, s = newS a rn nn e dc := ⟨_, rfl⟩
 rw [← hs]
 refine Ct.pack (pre := []) (post := fun v H' => ∃ b d w cs ws bq hd hc hp hw, v = .tuple (List.toArray [.pointer (some ⟨b, 0, none⟩), .int .i64 0]) ∧ H' = DpH s b d w 0 cs ws hd hc hp hw ∧ Dp s d cs ws bq hd hc hp hw) ?_ rfl
  (fun v H' ⟨b, d, w, cs, ws, bq, hd, hc, hp, hw, h1, h2, h3⟩ => by subst h2; exact ⟨[(DpH s b d w 0 cs ws hd hc hp hw).flatten], by simp, b, _, h1, rfl, h3.is⟩)
 refine Ct.mk' Tryz.func9 rfl rfl rfl (fun g R => ?_)
 try simp only [List.cons_append]
 simp only [List.nil_append]
 unfold LayV at hrl ⊢
 repeat' (first | refine go ?_ | refine mv ?_ | (refine I.ld ?_; first | refine ld rfl ?_ | refine lA rfl ?_) | refine asg ?_ | (refine I.gd ?_; first | refine gy ?_ | refine gF ?_) | (refine I.fa ?_; refine fa ?_) | (refine I.bin ?_; refine cm rfl rfl ?_) | (refine I.pk ?_; refine pF ?_) | (refine I.cond ?_; refine cN ?_) | (refine I.un ?_; refine nt ?_) | refine bx rfl (fun _ => ?_) | (refine I.cl ?_; refine WX.callQ rfl hrl rfl ?_) | fail)
 rename_i lb
 refine W.mixN 8 [true, true, false, true, false, true] [[(lb, .cells (List.toArray [.int .i64 a, .int .i64 rn, .int .i64 nn, .int .i64 e]) 23 (0, 0))]] Tryz.mix (by kernel_rfl) ?_
 repeat' (first | refine go ?_ | refine mv ?_ | (refine I.ld ?_; refine lA rfl ?_) | refine mU ?_ | refine mA ?_ | fail)
 refine WX.call rfl rnew_ct rfl ?_
 rintro _ _ ⟨d, h0, rfl, rfl, hd0⟩
 have hd0 : RD [] d h0 0 := ⟨[], 0, LR.nil, Int.le_refl 0, hd0⟩
 have hop := vopen_whole LOk.nil hd0
 simp only [List.cons_append, List.nil_append]
 repeat' (first | refine go ?_ | refine mv ?_ | (refine I.ld ?_; refine ld rfl ?_) | refine asg ?_ | (refine I.fa ?_; refine fa ?_) | (refine I.nc ?_; refine nc ?_) | refine mN ?_ | refine WX.nil ?_ | refine mU ?_ | refine mA ?_ | refine bd ?_ | refine bx rfl (fun _ => ?_) | fail)
 refine WX.call rfl hop rfl ?_
 rintro _ _ ⟨w, u, h1, ho, rfl, rfl, hd1, -⟩
 simp only [List.cons_append, List.nil_append]
 repeat' (first | refine go ?_ | refine mv ?_ | refine asg ?_ | (refine I.fa ?_; refine fa ?_) | (refine I.nc ?_; refine nc ?_) | (refine I.st ?_; refine st rfl rfl ?_) | refine ex ?_ | fail)
 rename_i b
 refine W.nilH ?_
 refine W.nilH ?_
 refine W.nilH ?_
 refine W.hp (H' := [[], [], [], VBk w d (lastN (newL nn 0)) 0, h1, ho, DtBk b ⟨a, rn, nn, e, dc, true, d, w, .slice none 0 0, .slice none 0 0⟩, LBk lb a rn nn e, R]) rfl ?_
 have hd1 : RD (newL nn 0) d h1 (243 * ((0 : Nat) : Int)) := hd1
 refine W.loop (α := Nat × NR) (fun x => x.1 ≤ rn ∧ x.2.Ok nn d x.1) (fun x => [(2, .pointer (some ⟨lb, 0, none⟩)), (6, .pointer (some ⟨b, 0, none⟩)), (7, .int .i64 (x.1 : Int))])
  (fun x => [DtBk b ⟨a, rn, nn, e, dc, true, d, w, .slice x.2.cp x.1 x.2.cc, .slice x.2.wp x.1 x.2.wc⟩, VBk w d (lastN (newL nn x.1)) 0, x.2.hd, x.2.hc, x.2.hp, x.2.hw, LBk lb a rn nn e, R]) (fun x => rn - x.1) (0, ⟨none, 0, none, 0, (fun _ => 0), h1, [], [], []⟩) ⟨Nat.zero_le _, hd1, IsSl.nil _, IsSl.nil _, rfl⟩ (by repeat (first | exact Fsub.nil | refine Fsub.cons rfl ?_)) (Hsub.of_picks inferInstance) ?_
 rintro ⟨k, ⟨cp, cc, wp, wc, bq, hd, hcc, hp, hw⟩⟩ ⟨hk, dp⟩
 obtain ⟨p1, p2, p3, p4⟩ := dp
 simp only [] at hk p1 p2 p3 p4 ⊢
 by_cases hlt : k < rn
 ·obtain ⟨g1, g2⟩ := newL_ok n1 n4 k (by omega)
  have hrm := newL_room n1 n4 (show k ≤ 3 by omega)
  have hnw := rwnew_ct (nn : Int)
  rw [newN_nat (by omega)] at hnw
  repeat' (first | refine go ?_ | refine mv ?_ | (refine I.ld ?_; refine ld rfl ?_) | (refine I.fa ?_; refine fa ?_) | (refine I.nc ?_; refine nc ?_) | (refine I.bin ?_; refine cm rfl rfl ?_) | (refine I.cond ?_; refine cP ?_) | (refine I.bd ?_; refine bdN Cfg.z.enc ?_) | fail)
  refine I.bs ?_
  refine WX.lit (ys := [Cfg.z]) rfl rfl rfl rfl rfl rfl (by decide) rfl (fun v2 h2 hs2 => ?_)
  skip
  have hcl : (rowF k fun _ => (firstCh nn).cfg).length = k := rowF_len
  refine WX.app rfl rfl p2 hs2.rs rfl rfl (by decide) (by simp only [List.length_cons, List.length_nil]; omega) rfl (fun v3 h3 hs3 => ?_)
  obtain ⟨cp3, cc3, e3⟩ := hs3.len
  rw [List.length_append, hcl, List.length_singleton] at e3
  subst e3
  repeat' (first | (refine I.fa ?_; refine fa ?_) | (refine I.nc ?_; refine nc ?_) | fail)
  refine I.st ?_
  refine stN (Dt.enc ⟨a, rn, nn, e, dc, true, d, w, .slice cp k cc, .slice wp k wc⟩) (Dt.enc ⟨a, rn, nn, e, dc, true, d, w, .slice cp3 (k + 1) cc3, .slice wp k wc⟩) rfl rfl ?_
  repeat' (first | refine go ?_ | fail)
  refine W.mixN 8 (List.replicate 7 true ++ [false, false, false, true, true]) [DtBk b ⟨a, rn, nn, e, dc, true, d, w, .slice cp3 (k + 1) cc3, .slice wp k wc⟩, LBk lb a rn nn e] Tryz.mix (by kernel_rfl) ?_
  repeat' (first | refine go ?_ | refine mv ?_ | (refine I.ld ?_; refine ld rfl ?_) | (refine I.fa ?_; refine fa ?_) | (refine I.nc ?_; refine nc ?_) | refine mU ?_ | refine mA ?_ | fail)
  refine WX.call rfl hnw rfl ?_
  rintro _ _ ⟨b1, h4, rfl, rfl, hw1⟩
  simp only [List.cons_append, List.nil_append]
  repeat' (first | refine go ?_ | refine mA ?_ | fail)
  refine I.bs ?_
  refine WX.lit (ys := [(⟨b1⟩ : Gp)]) rfl rfl rfl rfl rfl rfl (by decide) rfl (fun v5 h5 hs5 => ?_)
  repeat' (first | refine go ?_ | refine mA ?_ | fail)
  have hpl : (ptrs k bq).length = k := rowF_len
  refine WX.app rfl rfl p3 hs5.rs rfl rfl (by decide) (by simp only [List.length_cons, List.length_nil]; omega) rfl (fun v6 h6 hs6 => ?_)
  obtain ⟨wp6, wc6, e6⟩ := hs6.len
  rw [List.length_append, hpl, List.length_singleton] at e6
  subst e6
  repeat' (first | refine go ?_ | (refine I.fa ?_; refine fa ?_) | (refine I.nc ?_; refine nc ?_) | refine mN ?_ | refine mU ?_ | fail)
  refine I.st ?_
  refine stN (Dt.enc ⟨a, rn, nn, e, dc, true, d, w, .slice cp3 (k + 1) cc3, .slice wp k wc⟩) (Dt.enc ⟨a, rn, nn, e, dc, true, d, w, .slice cp3 (k + 1) cc3, .slice wp6 (k + 1) wc6⟩) rfl rfl ?_
  have hlay := dlayN_ct b ⟨a, rn, nn, e, dc, true, d, w, .slice cp3 (k + 1) cc3, .slice wp6 (k + 1) wc6⟩ (nn := nn) rfl n4 g1 (hd := hd) p1 (by omega) (by omega) (torn := 0) (hsc := hs3) (r := k) (by omega) (by rw [List.length_append, hcl]; simp) (Ch.cfgN (first_ok n1 n4)) hrm
  repeat' (first | refine go ?_ | refine mv ?_ | (refine I.ld ?_; refine ld rfl ?_) | refine asg ?_ | (refine I.fa ?_; refine fa ?_) | refine ex ?_ | refine al (fun _ => ?_) | (refine I.cl ?_; refine WX.callQ rfl hfc rfl ?_) | (refine I.st ?_; refine sGW Cfg.z.enc (firstCh nn).cfg.enc rfl rfl ?_) | (refine I.ld ?_; refine lAN (firstCh nn).cfg.enc (firstCh nn).cfg.enc rfl ?_) | fail)
  refine WX.call rfl hlay rfl ?_
  rintro v _ ⟨hd7, hc7, ho7, rfl, hdk7, hs7⟩
  rw [List.set_append_right _ _ (by rw [hcl]; exact Nat.le_refl _), hcl, Nat.sub_self, List.set_cons_zero] at hs7
  have q1 : RD (newL nn (k + 1)) d hd7 (243 * ((k + 1 : Nat) : Int)) := hdk7.mono (by omega)
  have q2 : IsSl 38 (rowF (k + 1) fun _ => (firstCh nn).cfg) (.slice cp3 (k + 1) cc3) hc7 := by rw [rowF_succ]; exact hs7
  have q3 : IsSl 95 (ptrs (k + 1) (updF bq k b1)) (.slice wp6 (k + 1) wc6) h6 := by
   unfold ptrs
   rw [rowF_succ, updF_same, rowF_congr (g := fun r => (⟨bq r⟩ : Gp)) (fun i hi => by rw [updF_ne (by omega)])]
   exact hs6
  have q4 : Wn RTy (k + 1) (updF bq k b1) (fun _ => List.replicate nn 0) (hw ++ h4) := by
   have hwu := p4.upd (j := k) (b := b1) (xs := List.replicate nn 0) (Nat.le_refl _)
   rw [show updF (fun _ => List.replicate nn (0 : Int)) k (List.replicate nn 0) = fun _ => List.replicate nn 0 from updF_id (f := fun _ => List.replicate nn (0 : Int))] at hwu
   exact ⟨hw, h4, rfl, hwu, by rw [updF_same]; exact hw1⟩
  simp only [List.cons_append, List.nil_append]
  repeat' (first | refine go ?_ | refine mv ?_ | refine asg ?_ | (refine I.bin ?_; refine ad ?_) | fail)
  rw [show lastN (layL (newL nn k) k (firstCh nn).cfg) = lastN (newL nn (k + 1)) from rfl]
  exact D.round (k + 1, ⟨cp3, cc3, wp6, wc6, updF bq k b1, hd7, hc7, h6, hw ++ h4⟩) ⟨by simp only []; omega, q1, q2, q3, q4⟩ (by simp only []; omega) (by repeat (first | exact Fsub.nil | refine Fsub.cons rfl ?_)) (Hsub.of_picks inferInstance)
 ·obtain rfl : k = rn := by omega
  repeat' (first | refine go ?_ | refine mv ?_ | (refine I.ld ?_; refine ld rfl ?_) | refine asg ?_ | (refine I.fa ?_; refine fa ?_) | (refine I.bin ?_; refine cm rfl rfl ?_) | (refine I.cond ?_; refine cN ?_) | fail)
  have hT : s.T = 243 * (k : Int) := by
   rw [hs]
   show 243 * ((recs (newL nn k)).length : Int) = _
   rw [(newL_ok n1 n4 k (by omega)).2, List.length_map, List.length_range]
  refine D.hp (H' := [DtBk b (s.dt d w (.slice cp k cc) (.slice wp k wc)), VBk w d (lastN s.lg) 0, hd, hcc, hp, hw, LBk lb a k nn e, R]) (by rw [hs]; rfl) ?_
  exact D.fin2 [DtBk b (s.dt d w (.slice cp k cc) (.slice wp k wc)), VBk w d (lastN s.lg) 0, hd, hcc, hp, hw] _ rfl rfl rfl ⟨b, d, w, _, _, bq, hd, hcc, hp, hw, rfl, rfl, ⟨by rw [hT, hs]; exact p1, by rw [hs]; exact p2, by rw [hs]; exact p3, by rw [hs]; exact p4⟩⟩
end Go.Proofs.YtfcefidmdijjkaaGreat

namespace Go.Proofs.YtfcefidmdijjkaaGreat
open Go Go.Sl
def kMsg : List CK := .i :: ([.i, .i, .i, .i] ++ ([.i, .i, .i, .i] ++ ([.i, .i, .i, .i, .i] ++ (kCfg ++ (kEnt ++ ([.b, .s, .s, .b, .b] ++ ([.i, .i, .i, .i, .i, .i, .i, .i, .i] ++ ([.i, .i, .i, .i, .i, .i, .i, .i, .i] ++ [.i, .i, .i, .i]))))))))
set_option maxRecDepth 10000 in
theorem msgs_ct {xs : List Msg} {u v : Value} {h1 h2 : Hp} (hx : Rs xs u h1) (hy : Rs xs v h2) (hl : xs.length ≤ 1000) :
  Ct Tryz.prog 36 [u, v] [h1, h2] (fun r H' => r = .bool true ∧ H' = [h1, h2]) := by
 obtain ⟨up, uc, rfl⟩ := hx.len
 obtain ⟨vp, vc, rfl⟩ := hy.len
 refine Ct.mk' Tryz.func36 rfl rfl rfl (fun g R => ?_)
 try simp only [List.cons_append]
 simp only [List.nil_append]
 repeat' (first | refine go ?_ | refine mv ?_ | refine asg ?_ | (refine I.bin ?_; refine cm rfl rfl ?_) | (refine I.cond ?_; refine cN ?_) | (refine I.bi ?_; refine ln rfl (by assumption) ?_) | fail)
 refine W.loop (α := Nat) (fun k => k ≤ xs.length) (fun k => [(0, .slice up xs.length uc), (1, .slice vp xs.length vc), (5, .int .i64 (k : Int))]) (fun _ => [h1, h2, R]) (fun k => xs.length - k) 0 (Nat.zero_le _) (by repeat (first | exact Fsub.nil | refine Fsub.cons rfl ?_)) (Hsub.of_picks inferInstance) ?_
 intro k hk
 by_cases hlt : k < xs.length
 ·obtain ⟨x, hkx⟩ : ∃ x, xs[k]? = some x := ⟨_, List.getElem?_eq_getElem hlt⟩
  have t8 : cellsEq kMsg x.enc x.enc = some true := cells_self rfl
  repeat' (first | refine go ?_ | refine mv ?_ | (refine I.bin ?_; refine cm rfl rfl ?_) | (refine I.cond ?_; refine cP ?_) | (refine I.bi ?_; refine ln rfl (by assumption) ?_) | fail)
  refine W.quiet Tryz.mix (by kernel_rfl) ?_
  repeat' (first | refine go ?_ | refine mv ?_ | refine asg ?_ | (refine I.bin ?_; refine ad ?_) | (refine I.cond ?_; refine cF ?_) | (refine I.ix ?_; refine ix rfl rfl ?_) | (refine I.ld ?_; first | refine WX.loadEW rfl hx hkx rfl rfl ?_ | refine WX.loadEW rfl hy hkx rfl rfl ?_) | (refine I.bin ?_; refine WX.neqA rfl rfl t8 rfl ?_) | fail)
  exact D.round (k + 1) (by omega) (by omega) (by repeat (first | exact Fsub.nil | refine Fsub.cons rfl ?_)) (Hsub.of_picks inferInstance)
 ·obtain rfl : k = xs.length := by omega
  repeat' (first | refine go ?_ | refine mv ?_ | refine asg ?_ | (refine I.bin ?_; refine cm rfl rfl ?_) | (refine I.cond ?_; refine cN ?_) | (refine I.bi ?_; refine ln rfl (by assumption) ?_) | fail)
  exact D.fin1 [h1, h2] _ rfl rfl ⟨rfl, rfl⟩
theorem looks_ct {s : MS} (ok : MsOk s) {bm bd : Nat} {h1 h2 : Hp} (hm : IsMs s bm h1) (hd : IsDs s bd h2) :
  Ct Tryz.prog 15 [.pointer (some ⟨bm, 0, none⟩), .pointer (some ⟨bd, 0, none⟩)] [h1, h2] (fun r H' => r = .bool true ∧ H' = [h1, h2]) := by
 have r1 := ok.r1; have r3 := ok.r3; have n4 := ok.n4
 have hup := mup_ct hm
 have hd0 := id hd
 obtain ⟨d, w, torn, cp, cc, wp, wc, bq, hdk, hc, hp, hw, rfl, dp⟩ := hd
 have hcm := fun r => mconf_ct ok hm r
 have hcd : ∀ r, Ct Tryz.prog 43 [.pointer (some ⟨bd, 0, none⟩), .int .i64 r] [DtBk bd (s.dt d w (.slice cp s.rn cc) (.slice wp s.rn wc)), VBk w d (lastN s.lg) torn, hdk, hc, hp, hw]
   (fun v H' => v = .agg (List.toArray (confS s r).enc) ∧ H' = [DtBk bd (s.dt d w (.slice cp s.rn cc) (.slice wp s.rn wc)), VBk w d (lastN s.lg) torn, hdk, hc, hp, hw]) := fun r =>
  Ct.pack (dconf_ct ok hd0 r) (by simp) (fun v H' ⟨e1, e2⟩ => ⟨_, by rw [e2]; simp, e1, rfl⟩)
 have hsm := fun r n => msil_ct ok hm r n
 have hsd : ∀ r n, Ct Tryz.prog 46 [.pointer (some ⟨bd, 0, none⟩), .int .i64 r, .int .i64 n] [DtBk bd (s.dt d w (.slice cp s.rn cc) (.slice wp s.rn wc)), VBk w d (lastN s.lg) torn, hdk, hc, hp, hw]
   (fun v H' => v = .int .i64 (silS s r n) ∧ H' = [DtBk bd (s.dt d w (.slice cp s.rn cc) (.slice wp s.rn wc)), VBk w d (lastN s.lg) torn, hdk, hc, hp, hw]) := fun r n =>
  Ct.pack (dsil_ct ok hd0 r n) (by simp) (fun v H' ⟨e1, e2⟩ => ⟨_, by rw [e2]; simp, e1, rfl⟩)
 have hrnE : (s.dt d w (.slice cp s.rn cc) (.slice wp s.rn wc)).rn = (s.rn : Int) := rfl
 have hnnE : (s.dt d w (.slice cp s.rn cc) (.slice wp s.rn wc)).nn = (s.nn : Int) := rfl
 have hupE : (s.dt d w (.slice cp s.rn cc) (.slice wp s.rn wc)).up = s.up := rfl
 refine Ct.pack (pre := [h1, DtBk bd (s.dt d w (.slice cp s.rn cc) (.slice wp s.rn wc)), VBk w d (lastN s.lg) torn, hdk, hc, hp, hw]) (post := fun v H' => v = .bool true ∧ H' = [h1, DtBk bd (s.dt d w (.slice cp s.rn cc) (.slice wp s.rn wc)), VBk w d (lastN s.lg) torn, hdk, hc, hp, hw]) ?_ (by simp) (fun v H' ⟨e1, e2⟩ => ⟨_, by rw [e2]; simp, e1, rfl⟩)
 refine Ct.mk' Tryz.func15 rfl rfl rfl (fun g R => ?_)
 try simp only [List.cons_append]
 simp only [List.nil_append]
 repeat' (first | refine go ?_ | refine asg ?_ | fail)
 refine W.quiet Tryz.mix (by kernel_rfl) ?_
 repeat' (first | refine mv ?_ | (refine I.ld ?_; refine ld rfl ?_) | (refine I.fa ?_; refine fa ?_) | (refine I.nc ?_; refine nc ?_) | (refine I.cl ?_; refine WX.callQ rfl hup rfl ?_) | fail)
 refine I.bin ?_
 refine WX.neqB rfl rfl rfl ?_
 rw [hupE, beq_self_eq_true, Bool.not_true]
 repeat' (first | refine go ?_ | refine asg ?_ | (refine I.cond ?_; refine cF ?_) | fail)
 refine W.loop (α := Nat) (fun j => j ≤ s.rn + 2) (fun j => [(0, .pointer (some ⟨bm, 0, none⟩)), (1, .pointer (some ⟨bd, 0, none⟩)), (5, .int .i64 ((j : Int) - 1))]) (fun _ => [h1, DtBk bd (s.dt d w (.slice cp s.rn cc) (.slice wp s.rn wc)), VBk w d (lastN s.lg) torn, hdk, hc, hp, hw, R]) (fun j => s.rn + 2 - j) 0 (Nat.zero_le _) (by repeat (first | exact Fsub.nil | refine Fsub.cons rfl ?_)) (Hsub.of_picks inferInstance) ?_
 intro j hj
 by_cases hlj : j < s.rn + 2
 ·have hcm1 := hcm ((j : Int) - 1)
  have hcd1 := hcd ((j : Int) - 1)
  have t8 : cellsEq kCfg (confS s ((j : Int) - 1)).enc (confS s ((j : Int) - 1)).enc = some true := cells_self rfl
  repeat' (first | refine go ?_ | refine mv ?_ | (refine I.ld ?_; refine ld rfl ?_) | refine asg ?_ | (refine I.fa ?_; refine fa ?_) | (refine I.nc ?_; refine nc ?_) | (refine I.bin ?_; refine cm rfl rfl ?_) | (refine I.cond ?_; first | refine cF ?_ | refine cP ?_) | (refine I.cl ?_; first | refine WX.callQ rfl hcm1 rfl ?_ | refine WX.callQ rfl hcd1 rfl ?_) | (refine I.bin ?_; refine WX.neqA rfl rfl t8 rfl ?_) | fail)
  refine W.loop (α := Nat) (fun i => i ≤ s.nn + 2) (fun i => [(0, .pointer (some ⟨bm, 0, none⟩)), (1, .pointer (some ⟨bd, 0, none⟩)), (5, .int .i64 ((j : Int) - 1)), (6, .int .i64 ((i : Int) - 1))]) (fun _ => [h1, DtBk bd (s.dt d w (.slice cp s.rn cc) (.slice wp s.rn wc)), VBk w d (lastN s.lg) torn, hdk, hc, hp, hw, R]) (fun i => s.nn + 2 - i) 0 (Nat.zero_le _) (by repeat (first | exact Fsub.nil | refine Fsub.cons rfl ?_)) (Hsub.of_picks inferInstance) ?_
  intro i hi
  by_cases hli : i < s.nn + 2
  ·have hsm1 := hsm ((j : Int) - 1) ((i : Int) - 1)
   have hsd1 := hsd ((j : Int) - 1) ((i : Int) - 1)
   repeat' (first | refine go ?_ | refine mv ?_ | (refine I.ld ?_; refine ld rfl ?_) | refine asg ?_ | (refine I.fa ?_; refine fa ?_) | (refine I.nc ?_; refine nc ?_) | (refine I.bin ?_; first | refine cm rfl rfl ?_ | refine ad ?_) | (refine I.cond ?_; first | refine cP ?_ | refine cN ?_) | (refine I.cl ?_; first | refine WX.callQ rfl hsm1 rfl ?_ | refine WX.callQ rfl hsd1 rfl ?_) | fail)
   refine D.as 6 (.int .i64 (((i + 1 : Nat) : Int) - 1)) rfl (by congr 1; omega) ?_
   exact D.round (i + 1) (by omega) (by omega) (by repeat (first | exact Fsub.nil | refine Fsub.cons rfl ?_)) (Hsub.of_picks inferInstance)
  ·repeat' (first | refine go ?_ | refine mv ?_ | (refine I.ld ?_; refine ld rfl ?_) | refine asg ?_ | (refine I.fa ?_; refine fa ?_) | (refine I.nc ?_; refine nc ?_) | (refine I.bin ?_; first | refine cm rfl rfl ?_ | refine ad ?_) | (refine I.cond ?_; refine cN ?_) | fail)
   refine D.as 5 (.int .i64 (((j + 1 : Nat) : Int) - 1)) rfl (by congr 1; omega) ?_
   exact D.round (j + 1) (by omega) (by omega) (by repeat (first | exact Fsub.nil | refine Fsub.cons rfl ?_)) (Hsub.of_picks inferInstance)
 ·repeat' (first | refine go ?_ | refine mv ?_ | (refine I.ld ?_; refine ld rfl ?_) | refine asg ?_ | (refine I.fa ?_; refine fa ?_) | (refine I.nc ?_; refine nc ?_) | (refine I.bin ?_; refine cm rfl rfl ?_) | (refine I.cond ?_; refine cN ?_) | fail)
  exact D.fin1 [h1, DtBk bd (s.dt d w (.slice cp s.rn cc) (.slice wp s.rn wc)), VBk w d (lastN s.lg) torn, hdk, hc, hp, hw] _ rfl rfl ⟨rfl, rfl⟩
end Go.Proofs.YtfcefidmdijjkaaGreat
