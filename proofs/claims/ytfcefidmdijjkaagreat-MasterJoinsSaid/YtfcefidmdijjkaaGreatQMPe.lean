/-
  Texts of one road, one behind the other.
-/
import Derived.Test.YtfcefidmdijjkaaGreatQMPd
import Derived.Test.YtfcefidmdijjkaaGreatQMPc
import Derived.Test.YtfcefidmdijjkaaGreatQMPb
import Derived.Test.YtfcefidmdijjkaaGreatQMPa
set_option linter.unusedVariables false
set_option linter.unusedSimpArgs false
namespace Go.Proofs.YtfcefidmdijjkaaGreat
open Go Go.Sl
abbrev VBk (w d : Nat) (seg torn : Int) : Hp := [(w, .cells (List.toArray [.pointer (some ⟨d, 0, none⟩), .int .i64 seg, .int .i64 torn]) 126 (0, 0))]
set_option maxHeartbeats 2000000 in
theorem vadd_ct {l : List Lf} (ok : LOk l) {d : Nat} {h : Hp} {T : Int} (hd : RD l d h T) {rs : List Rec} {v : Value} {hx : Hp} (hr : Rs rs v hx) (hl : rs.length ≤ 1000000) (hT0 : 0 ≤ T) (hT : T ≤ 274877906944) (hz : ∀ r ∈ rs, r.size ≤ 1073741824) {w : Nat} {torn : Int} :
  Ct Tryz.prog 69 [.pointer (some ⟨w, 0, none⟩), v] [VBk w d (lastN l) torn, h, hx] (fun res H' => ∃ h', res = .int .i64 (ladd l rs).2 ∧ H' = [VBk w d (lastN (ladd l rs).1) torn, h', hx] ∧ RD (ladd l rs).1 d h' (T + 243 * (rs.length : Int))) := by
 refine Ct.mk' Tryz.func69 rfl rfl rfl (fun g R => ?_)
 try simp only [List.cons_append]
 simp only [List.nil_append]
 repeat' (first | refine go ?_ | refine asg ?_ | fail)
 refine W.loop (α := Nat × List Lf × Hp) (fun x => x.1 ≤ rs.length ∧ LOk x.2.1 ∧ RD x.2.1 d x.2.2 (T + 243 * (x.1 : Int)) ∧ ladd l rs = ladd x.2.1 (rs.drop x.1))
  (fun x => [(0, .pointer (some ⟨w, 0, none⟩)), (1, v), (5, .int .i64 (x.1 : Int))])
  (fun x => [VBk w d (lastN x.2.1) torn, x.2.2, hx, R]) (fun x => rs.length - x.1) (0, l, h) ⟨Nat.zero_le _, ok, by simpa using hd, rfl⟩ (by repeat (first | exact Fsub.nil | refine Fsub.cons rfl ?_)) (Hsub.of_picks inferInstance) ?_
 rintro ⟨i, m, y⟩ ⟨hi, okm, hdm, he⟩
 simp only [] at hi okm hdm he ⊢
 by_cases hlt : i < rs.length
 ·obtain ⟨r, hri⟩ : ∃ r, rs[i]? = some r := ⟨_, List.getElem?_eq_getElem hlt⟩
  rw [ladd_drop hri] at he
  have hsz := hz r (List.mem_of_getElem? hri)
  have hrp := orec_ct r hsz
  have hsc := rsize_log okm hdm
  have hrg := lastN_range okm
  by_cases hc : r.code = 0
  ·rw [hc] at hrp
   obtain ⟨hA, hB⟩ := ladd1_good okm hc
   have okn := okm.add1 r
   repeat' (first | refine go ?_ | refine mv ?_ | (refine I.ld ?_; refine lF rfl (by assumption) ?_) | (refine I.bin ?_; refine cm rfl rfl ?_) | (refine I.cond ?_; refine cP ?_) | (refine I.bi ?_; refine ln rfl (by assumption) ?_) | (refine I.ix ?_; refine ix rfl rfl ?_) | fail)
   refine WX.call rfl hrp rfl ?_
   rintro _ _ ⟨u2, h2, rfl, rfl, hs2⟩
   have hap := rapp_log okm hdm (by omega) hc hs2.rs
   have htn : toN m = if 4096 ≤ (dk m).size (lastN m) then lastN m + 1 else lastN m := rfl
   have hlN : (ladd1 m r).2 = 0 → lastN (ladd1 m r).1 = toN m := fun h0 => by
    by_cases hE : (dk m).appE (toN m) r.fr.length = 0
    ·exact (hB hE).2.2
    ·rw [hA hE] at h0; exact absurd (show (51 : Int) = 0 from h0) (by decide)
   have hbad : (ladd1 m r).2 ≠ 0 → (ladd1 m r) = (m, 51) := fun h0 => by
    by_cases hE : (dk m).appE (toN m) r.fr.length = 0
    ·exact absurd (hB hE).1 h0
    ·exact hA hE
   simp only [List.cons_append, List.nil_append]
   by_cases h4 : 4096 ≤ (dk m).size (lastN m)
   ·rw [if_pos h4] at htn
    rw [htn] at hap hlN
    repeat' (first | refine go ?_ | refine mv ?_ | (refine I.ld ?_; refine ld rfl ?_) | refine asg ?_ | (refine I.fa ?_; refine fa ?_) | (refine I.nc ?_; refine nc ?_) | (refine I.bin ?_; refine cm rfl rfl ?_) | (refine I.cond ?_; refine cF ?_) | refine ex ?_ | fail)
    refine WX.callQ rfl hsc rfl ?_
    repeat' (first | refine go ?_ | refine mv ?_ | (refine I.ld ?_; refine ld rfl ?_) | refine asg ?_ | (refine I.fa ?_; refine fa ?_) | (refine I.nc ?_; refine nc ?_) | (refine I.bin ?_; first | refine cm rfl rfl ?_ | refine ad ?_) | (refine I.cond ?_; refine cP ?_) | fail)
    refine WX.call rfl hap rfl ?_
    rintro _ _ ⟨e, y', rfl, rfl, hee, hdy⟩
    simp only [List.cons_append, List.nil_append]
    by_cases hE : (ladd1 m r).2 = 0
    ·have he0 := hee.2 hE
     subst he0
     rw [if_neg (fun hn => hn hE)] at he
     repeat' (first | refine go ?_ | refine mv ?_ | refine asg ?_ | (refine I.fa ?_; refine fa ?_) | (refine I.nc ?_; refine nc ?_) | (refine I.bin ?_; first | refine cm rfl rfl ?_ | refine ad ?_) | (refine I.cond ?_; refine cF ?_) | (refine I.st ?_; refine st rfl rfl ?_) | fail)
     rw [← hlN hE]
     exact D.round (i + 1, (ladd1 m r).1, y') ⟨by simp only []; omega, okn, hdy.mono (by simp only []; omega), he⟩ (by simp only []; omega) (by repeat (first | exact Fsub.nil | refine Fsub.cons rfl ?_)) (Hsub.of_picks inferInstance)
    ·have he0 : ¬ e = 0 := fun h0 => hE (hee.1 h0)
     rw [if_pos hE, hbad hE] at he
     rw [hbad hE] at hdy
     repeat' (first | refine go ?_ | refine asg ?_ | (refine I.bin ?_; refine cm rfl rfl ?_) | (refine I.cond ?_; refine cP ?_) | fail)
     exact D.fin1 [VBk w d (lastN m) torn, y', hx] _ rfl rfl ⟨y', by rw [he], by rw [he], by rw [he]; exact hdy.mono (by omega)⟩
   ·rw [if_neg h4] at htn
    rw [htn] at hap hlN
    repeat' (first | refine go ?_ | refine mv ?_ | (refine I.ld ?_; refine ld rfl ?_) | refine asg ?_ | (refine I.fa ?_; refine fa ?_) | (refine I.nc ?_; refine nc ?_) | (refine I.bin ?_; refine cm rfl rfl ?_) | (refine I.cond ?_; refine cF ?_) | refine ex ?_ | fail)
    refine WX.callQ rfl hsc rfl ?_
    repeat' (first | refine go ?_ | refine mv ?_ | (refine I.ld ?_; refine ld rfl ?_) | (refine I.fa ?_; refine fa ?_) | (refine I.nc ?_; refine nc ?_) | (refine I.bin ?_; refine cm rfl rfl ?_) | (refine I.cond ?_; refine cN ?_) | fail)
    refine WX.call rfl hap rfl ?_
    rintro _ _ ⟨e, y', rfl, rfl, hee, hdy⟩
    simp only [List.cons_append, List.nil_append]
    by_cases hE : (ladd1 m r).2 = 0
    ·have he0 := hee.2 hE
     subst he0
     rw [if_neg (fun hn => hn hE)] at he
     repeat' (first | refine go ?_ | refine mv ?_ | refine asg ?_ | (refine I.fa ?_; refine fa ?_) | (refine I.nc ?_; refine nc ?_) | (refine I.bin ?_; first | refine cm rfl rfl ?_ | refine ad ?_) | (refine I.cond ?_; refine cF ?_) | (refine I.st ?_; refine st rfl rfl ?_) | fail)
     rw [← hlN hE]
     exact D.round (i + 1, (ladd1 m r).1, y') ⟨by simp only []; omega, okn, hdy.mono (by simp only []; omega), he⟩ (by simp only []; omega) (by repeat (first | exact Fsub.nil | refine Fsub.cons rfl ?_)) (Hsub.of_picks inferInstance)
    ·have he0 : ¬ e = 0 := fun h0 => hE (hee.1 h0)
     rw [if_pos hE, hbad hE] at he
     rw [hbad hE] at hdy
     repeat' (first | refine go ?_ | refine asg ?_ | (refine I.bin ?_; refine cm rfl rfl ?_) | (refine I.cond ?_; refine cP ?_) | fail)
     exact D.fin1 [VBk w d (lastN m) torn, y', hx] _ rfl rfl ⟨y', by rw [he], by rw [he], by rw [he]; exact hdy.mono (by omega)⟩
  ·rw [ladd1_bad hc, if_pos hc] at he
   repeat' (first | refine go ?_ | refine mv ?_ | (refine I.ld ?_; refine lF rfl (by assumption) ?_) | (refine I.bin ?_; refine cm rfl rfl ?_) | (refine I.cond ?_; refine cP ?_) | (refine I.bi ?_; refine ln rfl (by assumption) ?_) | (refine I.ix ?_; refine ix rfl rfl ?_) | fail)
   refine WX.call rfl hrp rfl ?_
   rintro _ _ ⟨u2, h2, rfl, rfl, hs2⟩
   simp only [List.cons_append, List.nil_append]
   repeat' (first | refine go ?_ | refine mv ?_ | refine asg ?_ | (refine I.bin ?_; refine cm rfl rfl ?_) | (refine I.cond ?_; refine cP ?_) | refine ex ?_ | fail)
   exact D.fin1 [VBk w d (lastN m) torn, y, hx] _ rfl rfl ⟨y, by rw [he], by rw [he], by rw [he]; exact hdm.mono (by omega)⟩
 ·have hlen : rs.drop i = [] := List.drop_eq_nil_of_le (by omega)
  rw [hlen] at he
  repeat' (first | refine go ?_ | refine mv ?_ | refine asg ?_ | (refine I.bin ?_; refine cm rfl rfl ?_) | (refine I.cond ?_; refine cN ?_) | (refine I.bi ?_; refine ln rfl (by assumption) ?_) | fail)
  exact D.fin1 [VBk w d (lastN m) torn, y, hx] _ rfl rfl ⟨y, by rw [he]; rfl, by rw [he]; rfl, by rw [he]; exact hdm.mono (by omega)⟩
end Go.Proofs.YtfcefidmdijjkaaGreat

namespace Go.Proofs.YtfcefidmdijjkaaGreat
open Go Go.Sl
def syS (qs : List RfQ) (i : Nat) : List RfQ := (qs.take i).map RfQ.syn ++ qs.drop i
theorem syS_at {qs : List RfQ} {i : Nat} {q : RfQ} (h : qs[i]? = some q) : (syS qs i)[i]? = some q ∧ (syS qs i).set i q.syn = syS qs (i + 1) := by
 obtain ⟨h1, h2⟩ := List.getElem?_eq_some_iff.1 h
 have hl : ((qs.take i).map RfQ.syn).length = i := by rw [List.length_map, List.length_take]; omega
 unfold syS
 have hd : qs.drop i = q :: qs.drop (i + 1) := by rw [List.drop_eq_getElem_cons h1, h2]
 constructor
 ·rw [List.getElem?_append_right (by omega), hl, Nat.sub_self, hd]; rfl
 ·rw [List.set_append_right _ _ (by omega), hl, Nat.sub_self, hd, List.set_cons_zero, List.take_succ_eq_append_getElem h1, h2, List.map_append, List.append_assoc]; rfl
theorem syS_map {γ : Type} {f : RfQ → γ} (hf : ∀ q, f q.syn = f q) (qs : List RfQ) (i : Nat) : (syS qs i).map f = qs.map f := by
 unfold syS
 rw [List.map_append, List.map_map]
 conv => rhs; rw [← List.take_append_drop i qs, List.map_append]
 congr 1
 exact List.map_congr_left fun x _ => hf x
theorem syS_ok {qs : List RfQ} (ok : QOk qs) (i : Nat) : QOk (syS qs i) where
 up := by rw [syS_map (f := (·.n)) (fun _ => rfl)]; exact ok.up
 ok := fun q hq => by
  unfold syS at hq
  rcases List.mem_append.1 hq with hq | hq
  ·obtain ⟨p, hp, rfl⟩ := List.mem_map.1 hq
   exact ⟨by show p.b.length + 0 = p.b.length; omega, by show ∀ x ∈ [], _; simp⟩
  ·exact ok.ok q (List.mem_of_mem_drop hq)
 used := by rw [syS_map (f := fun q => q.b.length) (fun _ => rfl)]; exact ok.used
 len := by have := ok.len; have h2 := congrArg List.length (syS_map (f := (·.n)) (fun _ => rfl) qs i); simp only [List.length_map] at h2; omega
set_option maxHeartbeats 1000000 in
theorem vsync_ct {l : List Lf} (ok : LOk l) {d : Nat} {h : Hp} {T : Int} (hd : RD l d h T) {w : Nat} {seg torn : Int} :
  Ct Tryz.prog 70 [.pointer (some ⟨w, 0, none⟩)] [VBk w d seg torn, h] (fun res H' => ∃ h', H' = [VBk w d seg torn, h'] ∧ RD (lsync l) d h' T) := by
 obtain ⟨qs, t, lr, ht, hd⟩ := hd
 have qok := lr.q ok.toLUp
 have hll := qok.len
 have hfc := rfiles_ct hd (by rw [List.length_map]; omega)
 have hnm : (qs.map RfQ.pl).map (·.n) = qs.map (·.n) := by rw [List.map_map]; rfl
 rw [hnm] at hfc
 have hnl : (qs.map (·.n)).length = qs.length := List.length_map _
 refine Ct.mk' Tryz.func70 rfl rfl rfl (fun g R => ?_)
 try simp only [List.cons_append]
 simp only [List.nil_append]
 repeat' (first | refine go ?_ | refine mv ?_ | (refine I.ld ?_; first | refine ld rfl ?_ | refine lE rfl (by assumption) ?_ | refine lA rfl ?_ | refine lF rfl (by assumption) ?_) | refine asg ?_ | (refine I.gd ?_; first | refine gy ?_ | refine gn ?_ | refine gnN ?_ | refine gu ?_ | refine guN ?_ | refine gT ?_ | refine gF ?_ | refine gS (fun _ => ?_) (fun _ => ?_)) | (refine I.fa ?_; first | refine fa ?_ | refine fE rfl ?_) | (refine I.nc ?_; first | refine nc ?_ | refine nE rfl ?_) | (refine I.bin ?_; first | refine cm rfl rfl ?_ | refine ad ?_ | refine su ?_ | refine np rfl rfl ?_ | refine eS ?_ | refine nS ?_) | (refine I.pk ?_; first | refine pT ?_ | refine pF ?_) | (refine I.cond ?_; first | refine cT ?_ | refine cF ?_ | refine cP ?_ | refine cN ?_) | refine mN ?_ | refine WX.nil ?_ | refine mU ?_ | refine mA ?_ | (refine I.bi ?_; first | refine ln rfl (by assumption) ?_ | refine l1 ?_ | refine lS ?_ | refine mi ?_ | refine ma ?_) | (refine I.ix ?_; first | refine ix rfl rfl ?_ | refine iI rfl rfl ?_ | refine iP ?_) | (refine I.st ?_; first | refine st rfl rfl ?_ | refine sG rfl rfl ?_) | refine ex ?_ | (refine I.un ?_; first | refine nD ?_ | refine nt ?_) | refine zY ?_ | refine bd ?_ | refine bx rfl (fun _ => ?_) | refine al (fun _ => ?_) | refine sl rfl rfl (by assumption) ?_ | refine cv rfl (by assumption) ?_)
 refine WX.call rfl hfc rfl ?_
 rintro u _ ⟨hn, rfl, hs⟩
 have hr := hs.rs
 simp only [List.cons_append, List.nil_append]
 repeat' (first | refine go ?_ | refine mv ?_ | (refine I.ld ?_; first | refine ld rfl ?_ | refine lE rfl (by assumption) ?_ | refine lA rfl ?_ | refine lF rfl (by assumption) ?_) | refine asg ?_ | (refine I.gd ?_; first | refine gy ?_ | refine gn ?_ | refine gnN ?_ | refine gu ?_ | refine guN ?_ | refine gT ?_ | refine gF ?_ | refine gS (fun _ => ?_) (fun _ => ?_)) | (refine I.fa ?_; first | refine fa ?_ | refine fE rfl ?_) | (refine I.nc ?_; first | refine nc ?_ | refine nE rfl ?_) | (refine I.bin ?_; first | refine cm rfl rfl ?_ | refine ad ?_ | refine su ?_ | refine np rfl rfl ?_ | refine eS ?_ | refine nS ?_) | (refine I.pk ?_; first | refine pT ?_ | refine pF ?_) | (refine I.cond ?_; first | refine cT ?_ | refine cF ?_ | refine cP ?_ | refine cN ?_) | refine mN ?_ | refine WX.nil ?_ | refine mU ?_ | refine mA ?_ | (refine I.bi ?_; first | refine ln rfl (by assumption) ?_ | refine l1 ?_ | refine lS ?_ | refine mi ?_ | refine ma ?_) | (refine I.ix ?_; first | refine ix rfl rfl ?_ | refine iI rfl rfl ?_ | refine iP ?_) | (refine I.st ?_; first | refine st rfl rfl ?_ | refine sG rfl rfl ?_) | refine ex ?_ | (refine I.un ?_; first | refine nD ?_ | refine nt ?_) | refine zY ?_ | refine bd ?_ | refine bx rfl (fun _ => ?_) | refine al (fun _ => ?_) | refine sl rfl rfl (by assumption) ?_ | refine cv rfl (by assumption) ?_)
 refine W.loop (α := Nat × Hp) (fun x => x.1 ≤ qs.length ∧ IsRk ((syS qs x.1).map RfQ.pl) t d x.2) (fun x => [(0, .pointer (some ⟨w, 0, none⟩)), (2, u), (3, .int .i64 (x.1 : Int))])
  (fun x => [VBk w d seg torn, x.2, hn, R]) (fun x => qs.length - x.1) (0, h) ⟨Nat.zero_le _, by simpa [syS] using hd⟩ (by repeat (first | exact Fsub.nil | refine Fsub.cons rfl ?_)) (Hsub.of_picks inferInstance) ?_
 rintro ⟨i, y⟩ ⟨hi, hdi⟩
 simp only [] at hi hdi ⊢
 by_cases hil : i < qs.length
 ·obtain ⟨q, hq⟩ : ∃ q, qs[i]? = some q := ⟨_, List.getElem?_eq_getElem hil⟩
  have hqn : (qs.map (·.n))[i]? = some q.n := by rw [List.getElem?_map, hq]; rfl
  obtain ⟨h1, h2⟩ := syS_at hq
  have hsy := rsync_ct (syS_ok qok i) hdi h1
  rw [h2] at hsy
  repeat' (first | refine go ?_ | refine mv ?_ | (refine I.ld ?_; first | refine ld rfl ?_ | refine lE rfl (by assumption) ?_ | refine lA rfl ?_ | refine lF rfl (by assumption) ?_) | refine asg ?_ | (refine I.gd ?_; first | refine gy ?_ | refine gn ?_ | refine gnN ?_ | refine gu ?_ | refine guN ?_ | refine gT ?_ | refine gF ?_ | refine gS (fun _ => ?_) (fun _ => ?_)) | (refine I.fa ?_; first | refine fa ?_ | refine fE rfl ?_) | (refine I.nc ?_; first | refine nc ?_ | refine nE rfl ?_) | (refine I.bin ?_; first | refine cm rfl rfl ?_ | refine ad ?_ | refine su ?_ | refine np rfl rfl ?_ | refine eS ?_ | refine nS ?_) | (refine I.pk ?_; first | refine pT ?_ | refine pF ?_) | (refine I.cond ?_; first | refine cT ?_ | refine cF ?_ | refine cP ?_ | refine cN ?_) | refine mN ?_ | refine WX.nil ?_ | refine mU ?_ | refine mA ?_ | (refine I.bi ?_; first | refine ln rfl (by assumption) ?_ | refine l1 ?_ | refine lS ?_ | refine mi ?_ | refine ma ?_) | (refine I.ix ?_; first | refine ix rfl rfl ?_ | refine iI rfl rfl ?_ | refine iP ?_) | (refine I.st ?_; first | refine st rfl rfl ?_ | refine sG rfl rfl ?_) | refine ex ?_ | (refine I.un ?_; first | refine nD ?_ | refine nt ?_) | refine zY ?_ | refine bd ?_ | refine bx rfl (fun _ => ?_) | refine al (fun _ => ?_) | refine sl rfl rfl (by assumption) ?_ | refine cv rfl (by assumption) ?_)
  refine W.mix (List.replicate 8 true) [VBk w d seg torn, hn] Tryz.mix (by kernel_rfl) ?_
  repeat' (first | refine go ?_ | refine mv ?_ | (refine I.ld ?_; first | refine ld rfl ?_ | refine lE rfl (by assumption) ?_ | refine lA rfl ?_ | refine lF rfl (by assumption) ?_) | refine asg ?_ | (refine I.gd ?_; first | refine gy ?_ | refine gn ?_ | refine gnN ?_ | refine gu ?_ | refine guN ?_ | refine gT ?_ | refine gF ?_ | refine gS (fun _ => ?_) (fun _ => ?_)) | (refine I.fa ?_; first | refine fa ?_ | refine fE rfl ?_) | (refine I.nc ?_; first | refine nc ?_ | refine nE rfl ?_) | (refine I.bin ?_; first | refine cm rfl rfl ?_ | refine ad ?_ | refine su ?_ | refine np rfl rfl ?_ | refine eS ?_ | refine nS ?_) | (refine I.pk ?_; first | refine pT ?_ | refine pF ?_) | (refine I.cond ?_; first | refine cT ?_ | refine cF ?_ | refine cP ?_ | refine cN ?_) | refine mN ?_ | refine WX.nil ?_ | refine mU ?_ | refine mA ?_ | (refine I.bi ?_; first | refine ln rfl (by assumption) ?_ | refine l1 ?_ | refine lS ?_ | refine mi ?_ | refine ma ?_) | (refine I.ix ?_; first | refine ix rfl rfl ?_ | refine iI rfl rfl ?_ | refine iP ?_) | (refine I.st ?_; first | refine st rfl rfl ?_ | refine sG rfl rfl ?_) | refine ex ?_ | (refine I.un ?_; first | refine nD ?_ | refine nt ?_) | refine zY ?_ | refine bd ?_ | refine bx rfl (fun _ => ?_) | refine al (fun _ => ?_) | refine sl rfl rfl (by assumption) ?_ | refine cv rfl (by assumption) ?_)
  refine WX.call rfl hsy rfl ?_
  rintro _ _ ⟨y', rfl, rfl, hdy⟩
  simp only [List.cons_append, List.nil_append]
  repeat' (first | refine go ?_ | refine mv ?_ | (refine I.ld ?_; first | refine ld rfl ?_ | refine lE rfl (by assumption) ?_ | refine lA rfl ?_ | refine lF rfl (by assumption) ?_) | refine asg ?_ | (refine I.gd ?_; first | refine gy ?_ | refine gn ?_ | refine gnN ?_ | refine gu ?_ | refine guN ?_ | refine gT ?_ | refine gF ?_ | refine gS (fun _ => ?_) (fun _ => ?_)) | (refine I.fa ?_; first | refine fa ?_ | refine fE rfl ?_) | (refine I.nc ?_; first | refine nc ?_ | refine nE rfl ?_) | (refine I.bin ?_; first | refine cm rfl rfl ?_ | refine ad ?_ | refine su ?_ | refine np rfl rfl ?_ | refine eS ?_ | refine nS ?_) | (refine I.pk ?_; first | refine pT ?_ | refine pF ?_) | (refine I.cond ?_; first | refine cT ?_ | refine cF ?_ | refine cP ?_ | refine cN ?_) | refine mN ?_ | refine WX.nil ?_ | refine mU ?_ | refine mA ?_ | (refine I.bi ?_; first | refine ln rfl (by assumption) ?_ | refine l1 ?_ | refine lS ?_ | refine mi ?_ | refine ma ?_) | (refine I.ix ?_; first | refine ix rfl rfl ?_ | refine iI rfl rfl ?_ | refine iP ?_) | (refine I.st ?_; first | refine st rfl rfl ?_ | refine sG rfl rfl ?_) | refine ex ?_ | (refine I.un ?_; first | refine nD ?_ | refine nt ?_) | refine zY ?_ | refine bd ?_ | refine bx rfl (fun _ => ?_) | refine al (fun _ => ?_) | refine sl rfl rfl (by assumption) ?_ | refine cv rfl (by assumption) ?_)
  exact D.round (i + 1, y') ⟨by simp only []; omega, hdy⟩ (by simp only []; omega) (by repeat (first | exact Fsub.nil | refine Fsub.cons rfl ?_)) (Hsub.of_picks inferInstance)
 ·obtain rfl : i = qs.length := by omega
  have hfin : syS qs qs.length = qs.map RfQ.syn := by unfold syS; rw [List.take_length, List.drop_length, List.append_nil]
  rw [hfin] at hdi
  repeat' (first | refine go ?_ | refine mv ?_ | (refine I.ld ?_; first | refine ld rfl ?_ | refine lE rfl (by assumption) ?_ | refine lA rfl ?_ | refine lF rfl (by assumption) ?_) | refine asg ?_ | (refine I.gd ?_; first | refine gy ?_ | refine gn ?_ | refine gnN ?_ | refine gu ?_ | refine guN ?_ | refine gT ?_ | refine gF ?_ | refine gS (fun _ => ?_) (fun _ => ?_)) | (refine I.fa ?_; first | refine fa ?_ | refine fE rfl ?_) | (refine I.nc ?_; first | refine nc ?_ | refine nE rfl ?_) | (refine I.bin ?_; first | refine cm rfl rfl ?_ | refine ad ?_ | refine su ?_ | refine np rfl rfl ?_ | refine eS ?_ | refine nS ?_) | (refine I.pk ?_; first | refine pT ?_ | refine pF ?_) | (refine I.cond ?_; first | refine cT ?_ | refine cF ?_ | refine cP ?_ | refine cN ?_) | refine mN ?_ | refine WX.nil ?_ | refine mU ?_ | refine mA ?_ | (refine I.bi ?_; first | refine ln rfl (by assumption) ?_ | refine l1 ?_ | refine lS ?_ | refine mi ?_ | refine ma ?_) | (refine I.ix ?_; first | refine ix rfl rfl ?_ | refine iI rfl rfl ?_ | refine iP ?_) | (refine I.st ?_; first | refine st rfl rfl ?_ | refine sG rfl rfl ?_) | refine ex ?_ | (refine I.un ?_; first | refine nD ?_ | refine nt ?_) | refine zY ?_ | refine bd ?_ | refine bx rfl (fun _ => ?_) | refine al (fun _ => ?_) | refine sl rfl rfl (by assumption) ?_ | refine cv rfl (by assumption) ?_)
  exact D.finE [VBk w d seg torn, y] _ rfl ⟨y, rfl, _, t, lr.sync, ht, hdi⟩
theorem vroom_ct {l : List Lf} (ok : LOk l) {d : Nat} {h : Hp} {T : Int} (hd : RD l d h T) {w : Nat} {seg torn : Int} (n : Int) :
  Ct Tryz.prog 68 [.pointer (some ⟨w, 0, none⟩), .int .i64 n] [VBk w d seg torn, h] (fun res H' => res = .bool (roomB l n) ∧ H' = [VBk w d seg torn, h]) := by
 obtain ⟨qs, t, lr, ht, hd⟩ := hd
 have qok := lr.q ok.toLUp
 have hll := qok.len
 have hml := lr.m.len
 have hus := lr.used
 have hu1 := ok.used
 have hfc := rfiles_ct hd (by rw [List.length_map]; omega)
 have hnm : (qs.map RfQ.pl).map (·.n) = qs.map (·.n) := by rw [List.map_map]; rfl
 rw [hnm] at hfc
 have hnl : (qs.map (·.n)).length = qs.length := List.length_map _
 have huc : Ct Tryz.prog 108 [.pointer (some ⟨d, 0, none⟩)] [h] (fun r H' => r = .int .i64 ((dk l).used : Int) ∧ H' = [h]) := by
  obtain ⟨lv, gs, lh, hd3, rfl⟩ := hd
  rw [← hus]
  exact (rused_q (d := d) (t := t) qok hd3).pack (by simp) (fun r H' p => ⟨[RBk d lv t ++ (lh ++ ghp gs)], by rw [p.2]; simp, p.1, rfl⟩)
 refine Ct.mk' Tryz.func68 rfl rfl rfl (fun g R => ?_)
 try simp only [List.cons_append]
 simp only [List.nil_append]
 unfold roomB
 by_cases h0 : 0 ≤ n
 ·by_cases h2 : n ≤ 2048
  ·repeat' (first | refine go ?_ | refine mv ?_ | (refine I.ld ?_; first | refine ld rfl ?_ | refine lE rfl (by assumption) ?_ | refine lA rfl ?_ | refine lF rfl (by assumption) ?_) | refine asg ?_ | (refine I.gd ?_; first | refine gy ?_ | refine gn ?_ | refine gnN ?_ | refine gu ?_ | refine guN ?_ | refine gT ?_ | refine gF ?_ | refine gS (fun _ => ?_) (fun _ => ?_)) | (refine I.fa ?_; first | refine fa ?_ | refine fE rfl ?_) | (refine I.nc ?_; first | refine nc ?_ | refine nE rfl ?_) | (refine I.bin ?_; first | refine cm rfl rfl ?_ | refine ad ?_ | refine su ?_ | refine np rfl rfl ?_ | refine eS ?_ | refine nS ?_) | (refine I.pk ?_; first | refine pT ?_ | refine pF ?_) | (refine I.cond ?_; first | refine cT ?_ | refine cF ?_ | refine cP ?_ | refine cN ?_) | refine mN ?_ | refine WX.nil ?_ | refine mU ?_ | refine mA ?_ | (refine I.bi ?_; first | refine ln rfl (by assumption) ?_ | refine l1 ?_ | refine lS ?_ | refine mi ?_ | refine ma ?_) | (refine I.ix ?_; first | refine ix rfl rfl ?_ | refine iI rfl rfl ?_ | refine iP ?_) | (refine I.st ?_; first | refine st rfl rfl ?_ | refine sG rfl rfl ?_) | refine ex ?_ | (refine I.un ?_; first | refine nD ?_ | refine nt ?_) | refine zY ?_ | refine bd ?_ | refine bx rfl (fun _ => ?_) | refine al (fun _ => ?_) | refine sl rfl rfl (by assumption) ?_ | refine cv rfl (by assumption) ?_)
   refine WX.call rfl hfc rfl ?_
   rintro u _ ⟨hn, rfl, hs⟩
   have hr := hs.rs
   simp only [List.cons_append, List.nil_append]
   by_cases h63 : l.length < 63
   ·repeat' (first | refine go ?_ | refine mv ?_ | (refine I.ld ?_; first | refine ld rfl ?_ | refine lE rfl (by assumption) ?_ | refine lA rfl ?_ | refine lF rfl (by assumption) ?_) | refine asg ?_ | (refine I.gd ?_; first | refine gy ?_ | refine gn ?_ | refine gnN ?_ | refine gu ?_ | refine guN ?_ | refine gT ?_ | refine gF ?_ | refine gS (fun _ => ?_) (fun _ => ?_)) | (refine I.fa ?_; first | refine fa ?_ | refine fE rfl ?_) | (refine I.nc ?_; first | refine nc ?_ | refine nE rfl ?_) | (refine I.bin ?_; first | refine cm rfl rfl ?_ | refine ad ?_ | refine su ?_ | refine np rfl rfl ?_ | refine eS ?_ | refine nS ?_) | (refine I.pk ?_; first | refine pT ?_ | refine pF ?_) | (refine I.cond ?_; first | refine cT ?_ | refine cF ?_ | refine cP ?_ | refine cN ?_) | refine mN ?_ | refine WX.nil ?_ | refine mU ?_ | refine mA ?_ | (refine I.bi ?_; first | refine ln rfl (by assumption) ?_ | refine l1 ?_ | refine lS ?_ | refine mi ?_ | refine ma ?_) | (refine I.ix ?_; first | refine ix rfl rfl ?_ | refine iI rfl rfl ?_ | refine iP ?_) | (refine I.st ?_; first | refine st rfl rfl ?_ | refine sG rfl rfl ?_) | refine ex ?_ | (refine I.un ?_; first | refine nD ?_ | refine nt ?_) | refine zY ?_ | refine bd ?_ | refine bx rfl (fun _ => ?_) | refine al (fun _ => ?_) | refine sl rfl rfl (by assumption) ?_ | refine cv rfl (by assumption) ?_)
    refine WX.callQ rfl huc rfl ?_
    repeat' (first | refine go ?_ | refine mv ?_ | (refine I.ld ?_; first | refine ld rfl ?_ | refine lE rfl (by assumption) ?_ | refine lA rfl ?_ | refine lF rfl (by assumption) ?_) | refine asg ?_ | (refine I.gd ?_; first | refine gy ?_ | refine gn ?_ | refine gnN ?_ | refine gu ?_ | refine guN ?_ | refine gT ?_ | refine gF ?_ | refine gS (fun _ => ?_) (fun _ => ?_)) | (refine I.fa ?_; first | refine fa ?_ | refine fE rfl ?_) | (refine I.nc ?_; first | refine nc ?_ | refine nE rfl ?_) | (refine I.bin ?_; first | refine cm rfl rfl ?_ | refine ad ?_ | refine su ?_ | refine np rfl rfl ?_ | refine eS ?_ | refine nS ?_) | (refine I.pk ?_; first | refine pT ?_ | refine pF ?_) | (refine I.cond ?_; first | refine cT ?_ | refine cF ?_ | refine cP ?_ | refine cN ?_) | refine mN ?_ | refine WX.nil ?_ | refine mU ?_ | refine mA ?_ | (refine I.bi ?_; first | refine ln rfl (by assumption) ?_ | refine l1 ?_ | refine lS ?_ | refine mi ?_ | refine ma ?_) | (refine I.ix ?_; first | refine ix rfl rfl ?_ | refine iI rfl rfl ?_ | refine iP ?_) | (refine I.st ?_; first | refine st rfl rfl ?_ | refine sG rfl rfl ?_) | refine ex ?_ | (refine I.un ?_; first | refine nD ?_ | refine nt ?_) | refine zY ?_ | refine bd ?_ | refine bx rfl (fun _ => ?_) | refine al (fun _ => ?_) | refine sl rfl rfl (by assumption) ?_ | refine cv rfl (by assumption) ?_ | (refine I.bin ?_; refine WX.mul rfl rfl rfl (by omega) ?_))
    exact D.fin1 [VBk w d seg torn, h] _ rfl rfl ⟨by congr 1; rw [decide_eq_decide]; omega, rfl⟩
   ·repeat' (first | refine go ?_ | refine mv ?_ | (refine I.ld ?_; first | refine ld rfl ?_ | refine lE rfl (by assumption) ?_ | refine lA rfl ?_ | refine lF rfl (by assumption) ?_) | refine asg ?_ | (refine I.gd ?_; first | refine gy ?_ | refine gn ?_ | refine gnN ?_ | refine gu ?_ | refine guN ?_ | refine gT ?_ | refine gF ?_ | refine gS (fun _ => ?_) (fun _ => ?_)) | (refine I.fa ?_; first | refine fa ?_ | refine fE rfl ?_) | (refine I.nc ?_; first | refine nc ?_ | refine nE rfl ?_) | (refine I.bin ?_; first | refine cm rfl rfl ?_ | refine ad ?_ | refine su ?_ | refine np rfl rfl ?_ | refine eS ?_ | refine nS ?_) | (refine I.pk ?_; first | refine pT ?_ | refine pF ?_) | (refine I.cond ?_; first | refine cT ?_ | refine cF ?_ | refine cP ?_ | refine cN ?_) | refine mN ?_ | refine WX.nil ?_ | refine mU ?_ | refine mA ?_ | (refine I.bi ?_; first | refine ln rfl (by assumption) ?_ | refine l1 ?_ | refine lS ?_ | refine mi ?_ | refine ma ?_) | (refine I.ix ?_; first | refine ix rfl rfl ?_ | refine iI rfl rfl ?_ | refine iP ?_) | (refine I.st ?_; first | refine st rfl rfl ?_ | refine sG rfl rfl ?_) | refine ex ?_ | (refine I.un ?_; first | refine nD ?_ | refine nt ?_) | refine zY ?_ | refine bd ?_ | refine bx rfl (fun _ => ?_) | refine al (fun _ => ?_) | refine sl rfl rfl (by assumption) ?_ | refine cv rfl (by assumption) ?_)
    exact D.fin1 [VBk w d seg torn, h] _ rfl rfl ⟨by rw [decide_eq_false (by omega)], rfl⟩
  ·repeat' (first | refine go ?_ | refine mv ?_ | (refine I.ld ?_; first | refine ld rfl ?_ | refine lE rfl (by assumption) ?_ | refine lA rfl ?_ | refine lF rfl (by assumption) ?_) | refine asg ?_ | (refine I.gd ?_; first | refine gy ?_ | refine gn ?_ | refine gnN ?_ | refine gu ?_ | refine guN ?_ | refine gT ?_ | refine gF ?_ | refine gS (fun _ => ?_) (fun _ => ?_)) | (refine I.fa ?_; first | refine fa ?_ | refine fE rfl ?_) | (refine I.nc ?_; first | refine nc ?_ | refine nE rfl ?_) | (refine I.bin ?_; first | refine cm rfl rfl ?_ | refine ad ?_ | refine su ?_ | refine np rfl rfl ?_ | refine eS ?_ | refine nS ?_) | (refine I.pk ?_; first | refine pT ?_ | refine pF ?_) | (refine I.cond ?_; first | refine cT ?_ | refine cF ?_ | refine cP ?_ | refine cN ?_) | refine mN ?_ | refine WX.nil ?_ | refine mU ?_ | refine mA ?_ | (refine I.bi ?_; first | refine ln rfl (by assumption) ?_ | refine l1 ?_ | refine lS ?_ | refine mi ?_ | refine ma ?_) | (refine I.ix ?_; first | refine ix rfl rfl ?_ | refine iI rfl rfl ?_ | refine iP ?_) | (refine I.st ?_; first | refine st rfl rfl ?_ | refine sG rfl rfl ?_) | refine ex ?_ | (refine I.un ?_; first | refine nD ?_ | refine nt ?_) | refine zY ?_ | refine bd ?_ | refine bx rfl (fun _ => ?_) | refine al (fun _ => ?_) | refine sl rfl rfl (by assumption) ?_ | refine cv rfl (by assumption) ?_)
   exact D.fin1 [VBk w d seg torn, h] _ rfl rfl ⟨by rw [decide_eq_false (by omega)], rfl⟩
 ·repeat' (first | refine go ?_ | refine mv ?_ | (refine I.ld ?_; first | refine ld rfl ?_ | refine lE rfl (by assumption) ?_ | refine lA rfl ?_ | refine lF rfl (by assumption) ?_) | refine asg ?_ | (refine I.gd ?_; first | refine gy ?_ | refine gn ?_ | refine gnN ?_ | refine gu ?_ | refine guN ?_ | refine gT ?_ | refine gF ?_ | refine gS (fun _ => ?_) (fun _ => ?_)) | (refine I.fa ?_; first | refine fa ?_ | refine fE rfl ?_) | (refine I.nc ?_; first | refine nc ?_ | refine nE rfl ?_) | (refine I.bin ?_; first | refine cm rfl rfl ?_ | refine ad ?_ | refine su ?_ | refine np rfl rfl ?_ | refine eS ?_ | refine nS ?_) | (refine I.pk ?_; first | refine pT ?_ | refine pF ?_) | (refine I.cond ?_; first | refine cT ?_ | refine cF ?_ | refine cP ?_ | refine cN ?_) | refine mN ?_ | refine WX.nil ?_ | refine mU ?_ | refine mA ?_ | (refine I.bi ?_; first | refine ln rfl (by assumption) ?_ | refine l1 ?_ | refine lS ?_ | refine mi ?_ | refine ma ?_) | (refine I.ix ?_; first | refine ix rfl rfl ?_ | refine iI rfl rfl ?_ | refine iP ?_) | (refine I.st ?_; first | refine st rfl rfl ?_ | refine sG rfl rfl ?_) | refine ex ?_ | (refine I.un ?_; first | refine nD ?_ | refine nt ?_) | refine zY ?_ | refine bd ?_ | refine bx rfl (fun _ => ?_) | refine al (fun _ => ?_) | refine sl rfl rfl (by assumption) ?_ | refine cv rfl (by assumption) ?_)
  exact D.fin1 [VBk w d seg torn, h] _ rfl rfl ⟨by rw [decide_eq_false (by omega)], rfl⟩
end Go.Proofs.YtfcefidmdijjkaaGreat

namespace Go.Proofs.YtfcefidmdijjkaaGreat
open Go Go.Sl
end Go.Proofs.YtfcefidmdijjkaaGreat

namespace Go.Proofs.YtfcefidmdijjkaaGreat
open Go Go.Sl
end Go.Proofs.YtfcefidmdijjkaaGreat

namespace Go.Proofs.YtfcefidmdijjkaaGreat
open Go Go.Sl
theorem q_set {qp : List RfQ} {x y : RfQ} {post : List RfQ} : (qp ++ x :: post).set qp.length y = qp ++ y :: post := by rw [List.set_append_right _ _ (Nat.le_refl _), Nat.sub_self]; rfl
theorem q_del {qp : List RfQ} {x y : RfQ} {post : List RfQ} : (qp ++ x :: y :: post).eraseIdx (qp.length + 1) = qp ++ x :: post := by
 rw [List.eraseIdx_append_of_length_le (by omega)]
 rw [show qp.length + 1 - qp.length = 1 by omega]
 rfl
theorem QOk.cut1 {qp : List RfQ} {x : RfQ} {post : List RfQ} (h : QOk (qp ++ x :: post)) {m : Nat} (hm : m ≤ x.b.length) : QOk (qp ++ x.cut m :: post) where
 up := by have := h.up; simp only [List.map_append, List.map_cons] at this ⊢; exact this
 ok := fun q hq => by
  rcases List.mem_append.1 hq with hq | hq
  ·exact h.ok q (by simp [hq])
  ·rcases List.mem_cons.1 hq with rfl | hq
   ·exact ⟨by show m + 0 = (x.b.take m).length; rw [List.length_take]; omega, by show ∀ y ∈ [], _; simp⟩
   ·exact h.ok q (by simp [hq])
 used := by
  have := h.used
  simp only [List.map_append, List.map_cons, List.sum_append, List.sum_cons] at this ⊢
  have e : (x.cut m).b.length ≤ x.b.length := by show (x.b.take m).length ≤ _; rw [List.length_take]; omega
  omega
 len := by have := h.len; simp only [List.length_append, List.length_cons] at this ⊢; exact this
theorem QOk.del1 {qp : List RfQ} {x y : RfQ} {post : List RfQ} (h : QOk (qp ++ x :: y :: post)) : QOk (qp ++ x :: post) where
 up := by
  have := h.up
  simp only [List.map_append, List.map_cons, List.pairwise_append, List.pairwise_cons, List.mem_cons] at this ⊢
  refine ⟨this.1, ⟨fun a ha => this.2.1.1 a (.inr ha), this.2.1.2.2⟩, fun a ha b hb => this.2.2 a ha b ?_⟩
  rcases hb with hb | hb
  ·exact .inl hb
  ·exact .inr (.inr hb)
 ok := fun q hq => h.ok q (by
  rcases List.mem_append.1 hq with hq | hq
  ·simp [hq]
  ·rcases List.mem_cons.1 hq with rfl | hq <;> simp_all)
 used := by have := h.used; simp only [List.map_append, List.map_cons, List.sum_append, List.sum_cons] at this ⊢; omega
 len := by have := h.len; simp only [List.length_append, List.length_cons] at this ⊢; omega
set_option maxHeartbeats 8000000 in
theorem vopen_ct {pre : List Lf} {qp tail : List RfQ} (hm : All2 FR pre qp) (hgd : ∀ f ∈ pre, ∀ r ∈ f.rs, r.code = 0) (qok : QOk (qp ++ tail)) {t : Int} {d : Nat} {h : Hp} (hd : IsRk ((qp ++ tail).map RfQ.pl) t d h)
  {seg torn : Int} {qs' : List RfQ} {out : List Rec} (hcount : 6 * (recs pre).length ≤ 1048576)
  (hend : (tail = [] ∧ seg = lastN pre ∧ torn = 0 ∧ qs' = qp ∧ out = outF (recs pre)) ∨
   ∃ x post rs tt, tail = x :: post ∧ x.b = bytes rs ++ tt ∧ x.ts = [] ∧ (∀ r ∈ rs, r.code = 0) ∧ Short tt ∧ tt ≠ [] ∧ seg = x.n ∧ torn = ((tt.length + (post.map (fun q => q.b.length)).sum : Nat) : Int) ∧ qs' = qp ++ [x.cut (bytes rs).length] ∧ out = outF (recs pre ++ rs)) :
  Ct Tryz.prog 31 [.pointer (some ⟨d, 0, none⟩)] [h] (fun res H' => ∃ w u h' ho, res = .tuple #[.pointer (some ⟨w, 0, none⟩), u] ∧ H' = [VBk w d seg torn, h', ho] ∧ IsRk (qs'.map RfQ.pl) t d h' ∧ IsSl 106 out u ho) := by
 have hll := qok.len
 have hml := hm.len
 have hfc := rfiles_ct hd (by rw [List.length_map]; omega)
 have hnm : ((qp ++ tail).map RfQ.pl).map (·.n) = (qp ++ tail).map (·.n) := by rw [List.map_map]; rfl
 rw [hnm] at hfc
 have hnl : ((qp ++ tail).map (·.n)).length = pre.length + tail.length := by rw [List.length_map, List.length_append]; omega
 rw [List.length_append] at hll
 refine Ct.mk' Tryz.func31 rfl rfl rfl (fun g R => ?_)
 try simp only [List.cons_append]
 simp only [List.nil_append]
 repeat' (first | refine go ?_ | refine mv ?_ | refine asg ?_ | refine bd ?_ | refine bx rfl (fun _ => ?_) | fail)
 rename_i w
 refine WX.call rfl hfc rfl ?_
 rintro fu _ ⟨hn, rfl, hs⟩
 have hr := hs.rs
 simp only [List.cons_append, List.nil_append]
 repeat' (first | refine go ?_ | refine asg ?_ | fail)
 refine W.nilH ?_
 refine W.loop (α := Bool × Nat × Value × Hp × Hp × Int × Int)
  (fun z => (z.1 = false ∧ z.2.1 ≤ pre.length ∧ IsSl 106 (outF (recs (pre.take z.2.1))) z.2.2.1 z.2.2.2.1 ∧ IsRk ((qp ++ tail).map RfQ.pl) t d z.2.2.2.2.1 ∧ z.2.2.2.2.2.1 = lastN (pre.take z.2.1) ∧ z.2.2.2.2.2.2 = 0) ∨
   (z.1 = true ∧ ∃ x post m tl j, (tail = x :: post ∧ m ≤ x.b.length ∧ seg = x.n ∧ torn = ((tl + (post.map (fun q => q.b.length)).sum : Nat) : Int) ∧ qs' = qp ++ [x.cut m]) ∧ z.2.1 = pre.length + 1 + j ∧ j ≤ post.length ∧ IsSl 106 out z.2.2.1 z.2.2.2.1 ∧ IsRk ((qp ++ x.cut m :: post.drop j).map RfQ.pl) t d z.2.2.2.2.1 ∧ QOk (qp ++ x.cut m :: post.drop j) ∧ z.2.2.2.2.2.1 = x.n ∧ z.2.2.2.2.2.2 = ((tl + ((post.take j).map (fun q => q.b.length)).sum : Nat) : Int) ∧ tl ≤ 1048576))
  (fun z => [(0, .pointer (some ⟨d, 0, none⟩)), (4, .pointer (some ⟨w, 0, none⟩)), (5, z.2.2.1), (6, fu), (7, .bool z.1), (8, .int .i64 (z.2.1 : Int))])
  (fun z => [z.2.2.2.1, VBk w d z.2.2.2.2.2.1 z.2.2.2.2.2.2, z.2.2.2.2.1, hn, R]) (fun z => pre.length + tail.length + 1 - z.2.1) (false, 0, .slice none 0 0, [], h, 0, 0) (.inl ⟨rfl, Nat.zero_le _, IsSl.nil _, hd, rfl, rfl⟩) (by repeat (first | exact Fsub.nil | refine Fsub.cons rfl ?_)) (Hsub.of_picks inferInstance) ?_
 rintro ⟨bad, i, o, ho, y, sg, tn⟩ hP
 simp only [] at hP ⊢
 rcases hP with ⟨rfl, hi, hso, hdy, rfl, rfl⟩ | ⟨rfl, x, post, m, tl, j, ⟨rfl, hmx, rfl, rfl, rfl⟩, rfl, hj, hso, hdy, qoky, rfl, rfl, htl⟩
 ·by_cases hC : i = pre.length ∧ tail = []
  ·obtain ⟨rfl, rfl⟩ := hC
   simp only [List.length_nil] at hnl
   rcases hend with ⟨-, rfl, rfl, rfl, rfl⟩ | ⟨x, post, rs, tt, e, -⟩
   ·rw [List.append_nil] at hdy
    rw [List.take_length] at hso ⊢
    repeat' (first | refine go ?_ | refine mv ?_ | refine asg ?_ | (refine I.bin ?_; refine cm rfl rfl ?_) | (refine I.cond ?_; refine cN ?_) | (refine I.bi ?_; refine ln rfl (by assumption) ?_) | fail)
    exact D.fin2 [VBk w d (lastN pre) 0, y, ho] _ rfl rfl rfl ⟨w, o, y, ho, rfl, rfl, hdy, hso⟩
   ·cases e
  ·obtain ⟨q, rs, tt, hqi, hqb, hgr, hcase⟩ : ∃ q rs tt, (qp ++ tail)[i]? = some q ∧ q.b = bytes rs ++ tt ∧ (∀ r ∈ rs, r.code = 0) ∧
     ((tt = [] ∧ ∃ f, pre[i]? = some f ∧ f.n = q.n ∧ f.rs = rs) ∨ (i = pre.length ∧ ∃ post, tail = q :: post ∧ q.ts = [] ∧ Short tt ∧ tt ≠ [] ∧ seg = q.n ∧ torn = ((tt.length + (post.map (fun q => q.b.length)).sum : Nat) : Int) ∧ qs' = qp ++ [q.cut (bytes rs).length] ∧ out = outF (recs pre ++ rs))) := by
    by_cases hlt : i < pre.length
    ·obtain ⟨f, hf⟩ : ∃ f, pre[i]? = some f := ⟨_, List.getElem?_eq_getElem hlt⟩
     obtain ⟨q, hq⟩ : ∃ q, qp[i]? = some q := ⟨_, List.getElem?_eq_getElem (by omega)⟩
     have hfr := hm.get hf hq
     exact ⟨q, f.rs, [], by rw [List.getElem?_append_left (by omega)]; exact hq, by rw [List.append_nil]; exact hfr.b, hgd f (List.mem_of_getElem? hf), .inl ⟨rfl, f, hf, hfr.n.symm, rfl⟩⟩
    ·obtain rfl : i = pre.length := by omega
     rcases hend with ⟨e, -⟩ | ⟨x, post, rs, tt, e1, e2, e3, e4, e5, e6, e7, e8, e9, e10⟩
     ·exact absurd ⟨rfl, e⟩ hC
     ·exact ⟨x, rs, tt, by rw [e1, hml, List.getElem?_append_right (Nat.le_refl _), Nat.sub_self]; rfl, e2, e4, .inr ⟨rfl, post, e1, e3, e5, e6, e7, e8, e9, e10⟩⟩
   have hqm := List.mem_of_getElem? hqi
   have hbl := qok.bl hqm
   rw [hqb, List.length_append] at hbl
   have hrl : 6 * rs.length ≤ 1048576 := by
    have := bytes_count hgr
    omega
   have hrt : (recs (pre.take i)).length ≤ (recs pre).length := by
    have := congrArg (fun l => (recs l).length) (List.take_append_drop i pre)
    simp only [recs_app, List.length_append] at this; omega
   have hnI : ((qp ++ tail).map (·.n))[i]? = some q.n := by rw [List.getElem?_map, hqi]; rfl
   have hrc := rread_ct hdy qok.srt (by rw [List.length_map, List.length_append]; omega) (q_nth hqi)
   have hil : i < pre.length + tail.length := by rw [← hnl]; exact (List.getElem?_eq_some_iff.1 hnI).1
   repeat' (first | refine go ?_ | refine mv ?_ | (refine I.ld ?_; refine lE rfl (by assumption) ?_) | (refine I.bin ?_; refine cm rfl rfl ?_) | (refine I.cond ?_; refine cP ?_) | (refine I.bi ?_; refine ln rfl (by assumption) ?_) | (refine I.ix ?_; refine ix rfl rfl ?_) | fail)
   refine WX.call rfl hrc rfl ?_
   rintro _ _ ⟨ub, rfl, rfl, hrb⟩
   have hrb : Rs (bytes rs ++ tt) ub y := by rw [← hqb]; exact hrb
   obtain ⟨bp, bc, rfl⟩ := hrb.len
   have hbc : (bytes rs ++ tt).length ≤ bc := by obtain ⟨a, cc, e, le, _⟩ := id hrb; cases e; exact le
   have hcl : (bytes rs ++ tt).length = (bytes rs).length + tt.length := List.length_append
   simp only [List.cons_append, List.nil_append]
   repeat' (first | refine go ?_ | refine mv ?_ | (refine I.ld ?_; refine lE rfl (by assumption) ?_) | refine asg ?_ | (refine I.fa ?_; refine fa ?_) | (refine I.nc ?_; refine nc ?_) | (refine I.cond ?_; refine cF ?_) | (refine I.ix ?_; refine ix rfl rfl ?_) | (refine I.st ?_; refine st rfl rfl ?_) | refine ex ?_ | fail)
   refine W.loop (α := Nat × Value × Hp) (fun z => z.1 ≤ rs.length ∧ IsSl 106 (outF (recs (pre.take i) ++ rs.take z.1)) z.2.1 z.2.2)
    (fun z => [(0, .pointer (some ⟨d, 0, none⟩)), (4, .pointer (some ⟨w, 0, none⟩)), (5, z.2.1), (6, fu), (7, .bool false), (8, .int .i64 (i : Int)), (9, .slice bp (bytes rs ++ tt).length bc), (11, .int .i64 ((bytes (rs.take z.1)).length : Int))])
    (fun z => [y, z.2.2, VBk w d q.n 0, hn, R]) (fun z => rs.length + 1 - z.1) (0, o, ho) ⟨Nat.zero_le _, by simpa using hso⟩ (by repeat (first | exact Fsub.nil | refine Fsub.cons rfl ?_)) (Hsub.of_picks inferInstance) ?_
   rintro ⟨j, o1, ho1⟩ ⟨hj, hso1⟩
   simp only [] at hj hso1 ⊢
   have hbt := bytes_take_le rs j
   by_cases hlt : j < rs.length
   ·obtain ⟨r, hrj⟩ : ∃ r, rs[j]? = some r := ⟨_, List.getElem?_eq_getElem hlt⟩
    have hrc0 := hgr r (List.mem_of_getElem? hrj)
    have hgd1 := Rec.good hrc0
    have hle := hgd1.fr_le
    have htk : rs.take (j + 1) = rs.take j ++ [r] := by rw [List.take_succ_eq_append_getElem hlt, (List.getElem?_eq_some_iff.1 hrj).2]
    have hdj : rs.drop j = r :: rs.drop (j + 1) := by rw [List.drop_eq_getElem_cons hlt, (List.getElem?_eq_some_iff.1 hrj).2]
    have hat : (bytes (rs.take (j + 1))).length = (bytes (rs.take j)).length + r.fr.length := by rw [htk, bytes_app, List.length_append]; simp [bytes]
    have hxs : (bytes rs ++ tt).drop (bytes (rs.take j)).length = r.fr ++ (bytes (rs.drop (j + 1)) ++ tt) := by
     rw [← bytes_take_drop rs j, List.append_assoc, List.drop_left, hdj, bytes_cons, List.append_assoc]
    have hxl : (bytes rs ++ tt).length = (bytes (rs.take j)).length + (r.fr.length + (bytes (rs.drop (j + 1)) ++ tt).length) := by
     have := congrArg List.length hxs
     simp only [List.length_drop, List.length_append] at this ⊢
     omega
    have hcut := hrb.cut (m := 1) (lo := (bytes (rs.take j)).length) (hi := (bytes rs ++ tt).length) (mx := bc) rfl (by omega) (Nat.le_refl _) hbc
    rw [List.take_of_length_le (by rw [List.length_drop]; omega)] at hcut
    have hread := rread_ok hgd1 hxs hcut (by rw [List.length_drop]; omega)
    have hoc := outF_len (recs (pre.take i) ++ rs.take j)
    rw [List.length_append, List.length_take] at hoc
    repeat' (first | refine go ?_ | refine mv ?_ | (refine I.bin ?_; refine cm rfl rfl ?_) | (refine I.cond ?_; refine cP ?_) | (refine I.bi ?_; refine ln rfl (by assumption) ?_) | fail)
    refine I.sl ?_
    refine WX.cutFrom (lo := (bytes (rs.take j)).length) rfl rfl (by omega) hbc rfl ?_
    refine WX.callQ rfl hread rfl ?_
    repeat' (first | refine mv ?_ | refine ex ?_ | fail)
    refine WX.alloc rfl (fun ba => ?_)
    refine WX.hp (H' := [[(ba, .cells Rec.z.enc.toArray 106 (0, 0))], y, ho1, VBk w d q.n 0, hn, R]) rfl ?_
    refine I.st ?_
    refine WX.storeG (vs := r.enc) (b := ba) (i := 0) (cs := Rec.z.enc) rfl rfl rfl rfl rfl rfl ?_
    rw [setAt_whole (show Rec.z.enc.length = r.enc.length from rfl)]
    by_cases hk3 : r.k = 3
    ·repeat' (first | (refine I.ld ?_; refine WX.loadA (b := ba) (i := 0) (cs := r.enc) (vs := r.enc) rfl rfl rfl rfl ?_) | refine go ?_ | refine mv ?_ | refine asg ?_ | (refine I.bin ?_; first | refine cm rfl rfl ?_ | refine ad ?_) | (refine I.cond ?_; refine cF ?_) | fail)
     refine I.bs ?_
     refine WX.lit (ys := [r]) rfl rfl rfl rfl rfl rfl (by decide) rfl (fun v1 h1 hs1 => ?_)
     refine WX.app rfl rfl hso1 hs1.rs rfl rfl (by decide) (by simp only [List.length_cons, List.length_nil, List.length_append] at hoc ⊢; omega) rfl (fun v2 h2 hs2 => ?_)
     repeat' (first | (refine I.ld ?_; refine WX.load (v := .int .i64 r.k) (b := ba) (i := 0) (cs := r.enc) rfl rfl rfl ?_) | refine go ?_ | refine asg ?_ | (refine I.fa ?_; refine fa ?_) | (refine I.bin ?_; refine cm rfl rfl ?_) | (refine I.cond ?_; refine cP ?_) | fail)
     refine D.as 11 (.int .i64 ((bytes (rs.take (j + 1))).length : Int)) rfl (by rw [hat]; rfl) ?_
     refine D.nilH ?_
     exact D.round (j + 1, .slice none 0 0, []) ⟨by simp only []; omega, by simp only []; rw [htk, ← List.append_assoc, outF_snoc, if_pos hk3]; exact IsSl.nil _⟩ (by simp only []; omega) (by repeat (first | exact Fsub.nil | refine Fsub.cons rfl ?_)) (Hsub.of_picks inferInstance)
    ·repeat' (first | (refine I.ld ?_; refine WX.loadA (b := ba) (i := 0) (cs := r.enc) (vs := r.enc) rfl rfl rfl rfl ?_) | refine go ?_ | refine mv ?_ | refine asg ?_ | (refine I.bin ?_; first | refine cm rfl rfl ?_ | refine ad ?_) | (refine I.cond ?_; refine cF ?_) | fail)
     refine I.bs ?_
     refine WX.lit (ys := [r]) rfl rfl rfl rfl rfl rfl (by decide) rfl (fun v1 h1 hs1 => ?_)
     refine WX.app rfl rfl hso1 hs1.rs rfl rfl (by decide) (by simp only [List.length_cons, List.length_nil, List.length_append] at hoc ⊢; omega) rfl (fun v2 h2 hs2 => ?_)
     repeat' (first | (refine I.ld ?_; refine WX.load (v := .int .i64 r.k) (b := ba) (i := 0) (cs := r.enc) rfl rfl rfl ?_) | refine go ?_ | refine asg ?_ | (refine I.fa ?_; refine fa ?_) | (refine I.bin ?_; refine cm rfl rfl ?_) | (refine I.cond ?_; refine cN ?_) | fail)
     refine D.as 11 (.int .i64 ((bytes (rs.take (j + 1))).length : Int)) rfl (by rw [hat]; rfl) ?_
     exact D.round (j + 1, v2, h2) ⟨by simp only []; omega, by simp only []; rw [htk, ← List.append_assoc, outF_snoc, if_neg hk3]; exact hs2⟩ (by simp only []; omega) (by repeat (first | exact Fsub.nil | refine Fsub.cons rfl ?_)) (Hsub.of_picks inferInstance)
   ·obtain rfl : j = rs.length := by omega
    rw [List.take_length] at hso1 hbt ⊢
    rcases hcase with ⟨rfl, f, hf, hfn, rfl⟩ | ⟨rfl, post, rfl, hts, hsh, htn, rfl, rfl, rfl, rfl⟩
    ·simp only [List.length_nil, Nat.add_zero] at hcl
     have hip := (List.getElem?_eq_some_iff.1 hf).1
     repeat' (first | refine go ?_ | refine mv ?_ | refine asg ?_ | (refine I.bin ?_; first | refine cm rfl rfl ?_ | refine ad ?_) | (refine I.cond ?_; first | refine cF ?_ | refine cN ?_) | (refine I.bi ?_; refine ln rfl (by assumption) ?_) | fail)
     rw [← recs_take hf] at hso1
     rw [← hfn, ← lastN_take hf]
     exact D.round (false, i + 1, o1, ho1, y, lastN (pre.take (i + 1)), 0) (.inl ⟨rfl, by simp only []; omega, hso1, hdy, rfl, rfl⟩) (by simp only []; omega) (by repeat (first | exact Fsub.nil | refine Fsub.cons rfl ?_)) (Hsub.of_picks inferInstance)
    ·obtain ⟨r, k, hrc0, hk, rfl⟩ := hsh
     have hgd1 := Rec.good hrc0
     have hle := hgd1.fr_le
     have htl : 0 < (r.fr.take k).length := List.length_pos_iff.2 htn
     have hkl : (r.fr.take k).length = k := by rw [List.length_take]; omega
     have hcut := hrb.cut (m := 1) (lo := (bytes rs).length) (hi := (bytes rs ++ r.fr.take k).length) (mx := bc) rfl (by omega) (Nat.le_refl _) hbc
     rw [List.take_of_length_le (by rw [List.length_drop]; omega), List.drop_left] at hcut
     have hread := rread_short hgd1 hk (by omega) rfl hcut
     rw [List.take_length] at hso1
     have htr := rtrunc_ct qok hdy hqi hts (m := (bytes rs).length) (by rw [hqb, List.length_append]; omega)
     rw [hml, q_set] at htr
     repeat' (first | refine go ?_ | refine mv ?_ | (refine I.bin ?_; refine cm rfl rfl ?_) | (refine I.cond ?_; refine cP ?_) | (refine I.bi ?_; refine ln rfl (by assumption) ?_) | fail)
     refine I.sl ?_
     refine WX.cutFrom (lo := (bytes rs).length) rfl rfl (by omega) hbc rfl ?_
     refine WX.callQ rfl hread rfl ?_
     repeat' (first | refine mv ?_ | refine ex ?_ | fail)
     refine WX.alloc rfl (fun ba => ?_)
     refine WX.hp (H' := [[(ba, .cells Rec.z.enc.toArray 106 (0, 0))], y, ho1, VBk w d q.n 0, hn, R]) rfl ?_
     refine I.st ?_
     refine WX.storeG (vs := Rec.z.enc) (b := ba) (i := 0) (cs := Rec.z.enc) rfl rfl rfl rfl rfl rfl ?_
     rw [setAt_whole rfl]
     repeat' (first | refine go ?_ | refine mv ?_ | (refine I.ld ?_; first | refine ld rfl ?_ | refine lE rfl (by assumption) ?_) | refine asg ?_ | (refine I.fa ?_; refine fa ?_) | (refine I.nc ?_; refine nc ?_) | (refine I.bin ?_; first | refine cm rfl rfl ?_ | refine ad ?_ | refine su ?_) | (refine I.cond ?_; refine cT ?_) | (refine I.bi ?_; refine ln rfl (by assumption) ?_) | (refine I.ix ?_; refine ix rfl rfl ?_) | (refine I.st ?_; refine st rfl rfl ?_) | refine zY ?_ | fail)
     refine WX.call rfl htr rfl ?_
     rintro _ _ ⟨y0, rfl, rfl, hd0⟩
     have e0 : (0 + ((bytes rs ++ r.fr.take k).length : Int) - ((bytes rs).length : Int)) = (((r.fr.take k).length + ((post.take 0).map (fun q => q.b.length)).sum : Nat) : Int) := by
      simp only [List.length_append, List.take_zero, List.map_nil, List.sum_nil]; omega
     rw [e0]
     simp only [List.cons_append, List.nil_append]
     repeat' (first | refine go ?_ | refine mv ?_ | refine asg ?_ | (refine I.bin ?_; refine ad ?_) | fail)
     exact D.round (true, pre.length + 1 + 0, o1, ho1, y0, q.n, (((r.fr.take k).length + ((post.take 0).map (fun q => q.b.length)).sum : Nat) : Int))
      (.inr ⟨rfl, q, post, (bytes rs).length, (r.fr.take k).length, 0, ⟨rfl, by rw [hqb, List.length_append]; omega, rfl, rfl, rfl⟩, rfl, Nat.zero_le _, hso1, hd0, qok.cut1 (by rw [hqb, List.length_append]; omega), rfl, rfl, by omega⟩) (by simp only [List.length_cons]; omega) (by repeat (first | exact Fsub.nil | refine Fsub.cons rfl ?_)) (Hsub.of_picks inferInstance)
 ·have htc : (x :: post).length = post.length + 1 := rfl
  rw [htc] at hnl
  by_cases hjl : j < post.length
  ·obtain ⟨q, hq⟩ : ∃ q, post[j]? = some q := ⟨_, List.getElem?_eq_getElem hjl⟩
   have hdr : post.drop j = q :: post.drop (j + 1) := by rw [List.drop_eq_getElem_cons hjl, (List.getElem?_eq_some_iff.1 hq).2]
   have htk : ((post.take (j + 1)).map (fun q => q.b.length)).sum = ((post.take j).map (fun q => q.b.length)).sum + q.b.length := by
    rw [List.take_succ_eq_append_getElem hjl, (List.getElem?_eq_some_iff.1 hq).2]; simp
   have hle2 := sum_take_le (fun q : RfQ => q.b.length) post (j + 1)
   have hus := qok.used
   rw [List.map_append, List.map_cons, List.sum_append, List.sum_cons] at hus
   have hnI : ((qp ++ x :: post).map (·.n))[pre.length + 1 + j]? = some q.n := by
    rw [List.getElem?_map, hml, List.getElem?_append_right (by omega), show qp.length + 1 + j - qp.length = j + 1 by omega, List.getElem?_cons_succ, hq]; rfl
   rw [hdr] at hdy qoky
   have hqi : (qp ++ x.cut m :: q :: post.drop (j + 1))[qp.length + 1]? = some q := by
    rw [List.getElem?_append_right (by omega), show qp.length + 1 - qp.length = 1 by omega]; rfl
   have hql := qoky.len
   have hrc := rread_ct hdy qoky.srt (by rw [List.length_map]; omega) (q_nth hqi)
   have hrm := rremove_ct qoky hdy hqi
   rw [q_del] at hrm
   repeat' (first | refine go ?_ | refine mv ?_ | (refine I.ld ?_; refine lE rfl (by assumption) ?_) | (refine I.bin ?_; refine cm rfl rfl ?_) | (refine I.cond ?_; refine cP ?_) | (refine I.bi ?_; refine ln rfl (by assumption) ?_) | (refine I.ix ?_; refine ix rfl rfl ?_) | fail)
   refine WX.call rfl hrc rfl ?_
   rintro _ _ ⟨ub, rfl, rfl, hrb⟩
   have hrb : Rs q.b ub y := hrb
   obtain ⟨bp, bc, rfl⟩ := hrb.len
   simp only [List.cons_append, List.nil_append]
   repeat' (first | refine go ?_ | refine mv ?_ | (refine I.ld ?_; first | refine ld rfl ?_ | refine lE rfl (by assumption) ?_) | refine asg ?_ | (refine I.fa ?_; refine fa ?_) | (refine I.nc ?_; refine nc ?_) | (refine I.bin ?_; refine ad ?_) | (refine I.cond ?_; refine cT ?_) | (refine I.bi ?_; refine ln rfl (by assumption) ?_) | (refine I.ix ?_; refine ix rfl rfl ?_) | (refine I.st ?_; refine st rfl rfl ?_) | refine ex ?_ | fail)
   refine WX.call rfl hrm rfl ?_
   rintro _ _ ⟨y2, rfl, rfl, hd2⟩
   have e1 : (((tl + ((post.take j).map (fun q => q.b.length)).sum : Nat) : Int) + (q.b.length : Int)) = ((tl + ((post.take (j + 1)).map (fun q => q.b.length)).sum : Nat) : Int) := by rw [htk]; omega
   rw [e1]
   simp only [List.cons_append, List.nil_append]
   repeat' (first | refine go ?_ | refine mv ?_ | refine asg ?_ | (refine I.bin ?_; refine ad ?_) | fail)
   exact D.round (true, pre.length + 1 + (j + 1), o, ho, y2, x.n, ((tl + ((post.take (j + 1)).map (fun q => q.b.length)).sum : Nat) : Int))
    (.inr ⟨rfl, x, post, m, tl, j + 1, ⟨rfl, hmx, rfl, rfl, rfl⟩, rfl, by omega, hso, hd2, qoky.del1, rfl, rfl, htl⟩) (by simp only [List.length_cons]; omega) (by repeat (first | exact Fsub.nil | refine Fsub.cons rfl ?_)) (Hsub.of_picks inferInstance)
  ·obtain rfl : j = post.length := by omega
   rw [List.drop_length] at hdy
   rw [List.take_length]
   repeat' (first | refine go ?_ | refine mv ?_ | refine asg ?_ | (refine I.bin ?_; refine cm rfl rfl ?_) | (refine I.cond ?_; refine cN ?_) | (refine I.bi ?_; refine ln rfl (by assumption) ?_) | fail)
   exact D.fin2 [VBk w d x.n ((tl + (post.map (fun q => q.b.length)).sum : Nat) : Int), y, ho] _ rfl rfl rfl ⟨w, o, y, ho, rfl, rfl, hdy, hso⟩
end Go.Proofs.YtfcefidmdijjkaaGreat

namespace Go.Proofs.YtfcefidmdijjkaaGreat
open Go Go.Sl
theorem vopen_whole {l : List Lf} (ok : LOk l) {d : Nat} {h : Hp} {T : Int} (hd : RD l d h T) :
  Ct Tryz.prog 31 [.pointer (some ⟨d, 0, none⟩)] [h] (fun res H' => ∃ w u h' ho, res = .tuple #[.pointer (some ⟨w, 0, none⟩), u] ∧ H' = [VBk w d (lastN l) 0, h', ho] ∧ RD l d h' T ∧ IsSl 106 (outF (recs l)) u ho) := by
 obtain ⟨qs, t, lr, ht, hd⟩ := hd
 have hc := recs_count ok.good
 have hu := ok.used
 have hd' : IsRk ((qs ++ []).map RfQ.pl) t d h := by rw [List.append_nil]; exact hd
 refine Ct.mono (vopen_ct (tail := []) lr.m ok.good (by rw [List.append_nil]; exact lr.q ok.toLUp) hd' (by omega) (.inl ⟨rfl, rfl, rfl, rfl, rfl⟩)) ?_
 rintro r H' ⟨w, u, h', ho, e1, e2, e3, e4⟩
 exact ⟨w, u, h', ho, e1, e2, ⟨qs, t, lr, ht, e3⟩, e4⟩
end Go.Proofs.YtfcefidmdijjkaaGreat

namespace Go.Proofs.YtfcefidmdijjkaaGreat
open Go Go.Sl
structure Ch where
 ep : Int
 ms : List Mem
 ln : Option Mem
 deriving DecidableEq
def Ch.all (c : Ch) : List Mem := c.ms ++ c.ln.toList
def Ch.cfg (c : Ch) : Cfg := ⟨c.ep, (c.ms.length : Int), c.ms.getD 0 Mem.z, c.ms.getD 1 Mem.z, c.ms.getD 2 Mem.z, c.ms.getD 3 Mem.z, c.ln.isSome, c.ln.getD Mem.z⟩
structure ChOk (c : Ch) : Prop where
 e1 : 1 ≤ c.ep
 e2 : c.ep ≤ 1099511627776
 l1 : 1 ≤ c.ms.length
 up : (c.all.map (·.nd)).Pairwise (· ≠ ·)
 rg : ∀ m ∈ c.all, 0 ≤ m.nd ∧ m.nd < 4 ∧ 1 ≤ m.sn ∧ m.sn ≤ c.ep
theorem four : ∀ {l : List Int}, l.Pairwise (· ≠ ·) → (∀ x ∈ l, 0 ≤ x ∧ x < 4) → l.length ≤ 4
 | [], _, _ => by decide
 | [_], _, _ => by simp
 | [_, _], _, _ => by simp
 | [_, _, _], _, _ => by simp
 | [_, _, _, _], _, _ => by simp
 | a :: b :: c :: d :: e :: t, h, k => by
  have ha := k a (by simp); have hb := k b (by simp); have hc := k c (by simp); have hd := k d (by simp); have he := k e (by simp)
  simp only [List.pairwise_cons, List.mem_cons, forall_eq_or_imp] at h
  obtain ⟨⟨h1, h2, h3, h4, _⟩, ⟨h5, h6, h7, _⟩, ⟨h8, h9, _⟩, ⟨h10, _⟩, _⟩ := h
  exfalso; omega
theorem ChOk.l4 {c : Ch} (h : ChOk c) : c.ms.length + c.ln.toList.length ≤ 4 := by
 have := four h.up (fun x hx => by
  obtain ⟨m, hm, rfl⟩ := List.mem_map.1 hx
  exact ⟨(h.rg m hm).1, (h.rg m hm).2.1⟩)
 rw [List.length_map] at this
 unfold Ch.all at this
 rw [List.length_append] at this
 exact this
def firstCh (n : Nat) : Ch := ⟨1, (List.range n).map fun (i : Nat) => ⟨(i : Int), 1⟩, none⟩
theorem first_ok {n : Nat} (h1 : 1 ≤ n) (h2 : n ≤ 4) : ChOk (firstCh n) := by
 refine ⟨Int.le_refl 1, by show (1 : Int) ≤ 1099511627776; decide, by simpa [firstCh] using h1, ?_, ?_⟩
 ·match n, h1, h2 with
  | 1, _, _ => decide
  | 2, _, _ => decide
  | 3, _, _ => decide
  | 4, _, _ => decide
 ·match n, h1, h2 with
  | 1, _, _ => decide
  | 2, _, _ => decide
  | 3, _, _ => decide
  | 4, _, _ => decide
def Ch.has (c : Ch) (n : Int) : Bool := c.ms.any fun m => m.nd == n
theorem Ch.has_iff {c : Ch} {n : Int} : c.has n = true ↔ ∃ m ∈ c.ms, m.nd = n := by simp [Ch.has]
def addL (c : Ch) (n : Int) : Option Ch := if c.ep = 1099511627776 ∨ c.ln.isSome = true ∨ n < 0 ∨ 4 ≤ n ∨ c.has n = true then none else some ⟨c.ep + 1, c.ms, some ⟨n, c.ep + 1⟩⟩
def dropL (c : Ch) (n : Int) : Option Ch :=
 if c.ep = 1099511627776 then none
 else if c.ln.any (fun m => m.nd == n) = true then some ⟨c.ep + 1, c.ms, none⟩
 else if c.has n = false ∨ c.ms.length = 1 then none
 else some ⟨c.ep + 1, c.ms.filter fun m => m.nd != n, c.ln⟩
def growL (c : Ch) : Option Ch := if c.ep = 1099511627776 then none else match c.ln with
 | none => none
 | some m => some ⟨c.ep + 1, c.ms ++ [m], none⟩
theorem ChOk.addL {c c' : Ch} {n : Int} (h : ChOk c) (e : addL c n = some c') : ChOk c' := by
 unfold Go.Proofs.YtfcefidmdijjkaaGreat.addL at e
 split at e
 ·cases e
 ·rename_i hn
  simp only [not_or] at hn
  obtain ⟨n1, n2, n3, n4, n5⟩ := hn
  cases e
  have e1 := h.e1; have e2 := h.e2
  have hl : c.ln = none := by cases hl : c.ln with | none => rfl | some m => simp [hl] at n2
  have ha : c.all = c.ms := by simp [Ch.all, hl]
  refine ⟨by simp only []; omega, by simp only []; omega, h.l1, ?_, ?_⟩
  ·have := h.up
   rw [ha] at this
   simp only [Ch.all, Option.toList, List.map_append, List.map_cons, List.map_nil]
   refine List.pairwise_append.2 ⟨this, List.pairwise_singleton .., fun x hx y hy => ?_⟩
   rw [List.mem_singleton.1 hy]
   obtain ⟨m, hm, rfl⟩ := List.mem_map.1 hx
   intro he
   exact n5 (Ch.has_iff.2 ⟨m, hm, he⟩)
  ·intro m hm
   simp only [Ch.all, Option.toList] at hm
   rcases List.mem_append.1 hm with hm | hm
   ·have := h.rg m (by rw [ha]; exact hm)
    simp only []; omega
   ·rw [List.mem_singleton.1 hm]; simp only []; omega
theorem ChOk.growL {c c' : Ch} (h : ChOk c) (e : growL c = some c') : ChOk c' := by
 unfold Go.Proofs.YtfcefidmdijjkaaGreat.growL at e
 split at e
 ·cases e
 ·rename_i n1
  have e1 := h.e1; have e2 := h.e2
  cases hl : c.ln with
  | none => rw [hl] at e; cases e
  | some m =>
   rw [hl] at e
   cases e
   have ha : c.all = c.ms ++ [m] := by simp [Ch.all, hl]
   refine ⟨by simp only []; omega, by simp only []; omega, by simp, ?_, ?_⟩
   ·have := h.up
    rw [ha] at this
    simpa [Ch.all] using this
   ·intro x hx
    have hx : x ∈ c.all := by rw [ha]; simpa [Ch.all] using hx
    have := h.rg x hx
    simp only []; omega
theorem ChOk.dropL {c c' : Ch} {n : Int} (h : ChOk c) (e : dropL c n = some c') : ChOk c' := by
 unfold Go.Proofs.YtfcefidmdijjkaaGreat.dropL at e
 have e1 := h.e1; have e2 := h.e2
 split at e
 ·cases e
 ·split at e
  ·cases e
   have hs : c.ms.Sublist c.all := List.sublist_append_left ..
   refine ⟨by simp only []; omega, by simp only []; omega, h.l1, ?_, ?_⟩
   ·have := List.Pairwise.sublist (hs.map (·.nd)) h.up
    simpa [Ch.all] using this
   ·intro x hx
    have hx : x ∈ c.ms := by simpa [Ch.all] using hx
    have := h.rg x (hs.subset hx)
    simp only []; omega
  ·split at e
   ·cases e
   ·rename_i n1 n2 n3
    cases e
    simp only [not_or] at n3
    obtain ⟨n3, n4⟩ := n3
    have hs : (c.ms.filter (fun m => m.nd != n) ++ c.ln.toList).Sublist c.all := List.Sublist.append (List.filter_sublist ..) (List.Sublist.refl _)
    refine ⟨by simp only []; omega, by simp only []; omega, ?_, List.Pairwise.sublist (hs.map (·.nd)) h.up, ?_⟩
    ·simp only []
     have l1 := h.l1
     have hu : (c.ms.map (·.nd)).Pairwise (· ≠ ·) := List.Pairwise.sublist ((List.sublist_append_left c.ms c.ln.toList).map (·.nd)) h.up
     match hm : c.ms with
     | [] => rw [hm] at l1; simp at l1
     | [a] => rw [hm] at n4; simp at n4
     | a :: b :: t =>
      rw [hm] at hu
      simp only [List.map_cons, List.pairwise_cons, List.mem_cons, forall_eq_or_imp] at hu
      have hab := hu.1.1
      by_cases h1 : a.nd = n
      ·have h2 : b.nd ≠ n := by omega
       simp [List.filter_cons, h1, h2]
      ·simp [List.filter_cons, h1]
    ·intro x hx
     have := h.rg x (hs.subset hx)
     simp only []; omega
end Go.Proofs.YtfcefidmdijjkaaGreat

namespace Go.Sl
open Go
def arAt (b off m n l : Nat) : Addr := if n = l then ⟨b, off, none⟩ else ⟨b, off + l * m, none⟩
section
variable {g : World} {P : Program} {ops : Array Oper} {Q : Exit → Act → World → Prop} {q : Bool} {n d ty : Nat} {pos : String} {af : Array Edge} {rest : List Oper} {L : Fm} {H : HH}
variable {x i j : Operand} {t e m lo hi len b off : Nat} {ag : Bool} {kd kd' : IntKind}
theorem WX.arTo (hx : ev L x = some (.pointer (some ⟨b, off, none⟩))) (hj' : ev L j = some (.int kd' (hi : Int))) (h2 : hi ≤ len) [ht : TU P t (.array len e)] [hl : TL P e m ag]
  (hd : Nat.blt d n = true) (kk : WX q g P ops Q n rest ((d, .slice (some ⟨b, off, none⟩) hi len) :: L) H) : WX q g P ops Q n (⟨some d, .slice t x none (some j) none, ty, pos, af, none⟩ :: rest) L H :=
 WX.val (fun a' ha w hw => by
  have e0 : ∀ k : Nat, (if k = 0 then (⟨b, off, none⟩ : Addr) else (⟨b, off, none⟩ : Addr).add (0 * m)) = ⟨b, off, none⟩ := fun k => by split <;> simp [add_none]
  simp [execOp, ha.ev hx, ha.ev hj', Instr.sliceAt, Instr.sureAddr, Instr.sliceBounds, bound_ok h2, ht.run, hl.sizeOf, add_none]) hd kk
theorem WX.arFrom (hx : ev L x = some (.pointer (some ⟨b, off, none⟩))) (hi' : ev L i = some (.int kd (lo : Int))) (h1 : lo ≤ len) [ht : TU P t (.array len e)] [hl : TL P e m ag]
  (hd : Nat.blt d n = true) (kk : WX q g P ops Q n rest ((d, .slice (some (arAt b off m len lo)) (len - lo) (len - lo)) :: L) H) : WX q g P ops Q n (⟨some d, .slice t x (some i) none none, ty, pos, af, none⟩ :: rest) L H :=
 WX.val (fun a' ha w hw => by
  simp [execOp, ha.ev hx, ha.ev hi', Instr.sliceAt, Instr.sureAddr, Instr.sliceBounds, bound_ok h1, ht.run, hl.sizeOf, add_none, arAt]) hd kk
theorem WX.arCut (hx : ev L x = some (.pointer (some ⟨b, off, none⟩))) (hi' : ev L i = some (.int kd (lo : Int))) (hj' : ev L j = some (.int kd' (hi : Int))) (h1 : lo ≤ hi) (h2 : hi ≤ len) [ht : TU P t (.array len e)] [hl : TL P e m ag]
  (hd : Nat.blt d n = true) (kk : WX q g P ops Q n rest ((d, .slice (some (arAt b off m len lo)) (hi - lo) (len - lo)) :: L) H) : WX q g P ops Q n (⟨some d, .slice t x (some i) (some j) none, ty, pos, af, none⟩ :: rest) L H :=
 WX.val (fun a' ha w hw => by
  simp [execOp, ha.ev hx, ha.ev hi', ha.ev hj', Instr.sliceAt, Instr.sureAddr, Instr.sliceBounds, bound_ok h1, bound_ok h2, ht.run, hl.sizeOf, add_none, arAt]) hd kk
theorem WX.copyIn {y : Operand} {t2 dl dc sl sc T i0 j0 : Nat} {cs vs : List Value} {K : Obj → HH} (hx : ev L x = some (.slice (some ⟨b, i0, none⟩) dl dc)) (hy : ev L y = some (.slice (some ⟨b, j0, none⟩) sl sc)) [ht : TU P t (.slice e)] [hl : TL P e m ag]
  [hf : Foc b (.cells (List.toArray cs) T (0, 0)) H K] (hv : (cs.drop j0).take (Nat.min sl dl * m) = vs) (hvl : vs.length = Nat.min sl dl * m) (h1 : oneCells vs = true) (hb : Nat.ble (i0 + vs.length) cs.length = true)
  (hd : Nat.blt d n = true) (k : WX false g P ops Q n rest ((d, .int .i64 (Nat.min sl dl : Int)) :: L) (K (.cells (List.toArray (setAt cs i0 vs)) T (0, 0)))) :
  WX false g P ops Q n (⟨some d, .call ⟨.builtin .copy, #[x, y], #[t, t2]⟩, ty, pos, af, none⟩ :: rest) L H :=
 WX.eff hd (fun a w ha hw => by
  obtain ⟨w', e1, e2, e3, e4⟩ := run_storeCells (P := P) vs i0 0 cs w (hf.heap hw) (by have := Nat.le_of_ble_eq_true hb; omega) h1
  have e5 := run_loadCells_list (P := P) w ⟨b, j0, none⟩ vs (fun j v he => by
   rw [add_none, cell_bk (hf.heap hw)]
   have hlt := (List.getElem?_eq_some_iff.1 he).1
   rw [← hv, List.getElem?_take, if_pos (by omega), List.getElem?_drop] at he
   exact he)
  rw [hvl] at e5
  refine ⟨_, w', _, run_bi (args := [x, y]) (r := .int .i64 (Nat.min sl dl : Int)) (by simp [ha.ev hx, ha.ev hy]; rfl) ?_, hf.set hw e2 e3 e4, k⟩
  simp [builtin, Builtin.copy_, Builtin.lenOf, Builtin.firstCells, ht.run, hl.sizeOf, e5, e1, goInt])
end
section
variable {α : Type} [Enc α]
theorem Rs.part {b o T c : Nat} {fr : Nat × Nat} {pre post cs : List Value} {xs : List α} (hcs : cs = pre ++ (encs xs ++ post)) (ho : pre.length = o) (hc : xs.length ≤ c) : Rs xs (.slice (some ⟨b, o, none⟩) xs.length c) [(b, .cells (List.toArray cs) T fr)] := by
 subst hcs; subst ho
 refine ⟨_, _, rfl, hc, fun k y hk => ⟨b, pre.length, rfl, fun j u hu g w hw => ?_⟩⟩
 have hj : j < Enc.sz α := by have := (List.getElem?_eq_some_iff.1 hu).1; rwa [Enc.len] at this
 rw [cell_bk (hw.2.2 b _ (List.mem_cons_self)), List.getElem?_append_right (by omega), show pre.length + (k * Enc.sz α + j) - pre.length = k * Enc.sz α + j by omega, encs_get hk hj, hu]
theorem Rs.none {v : Value} {p : Option Addr} {c : Nat} (h : Hp) (e : v = .slice p 0 c) : Rs ([] : List α) v h := ⟨p, c, e, Nat.zero_le _, fun k y hk => by simp at hk⟩
end
end Go.Sl

namespace Go.Proofs.YtfcefidmdijjkaaGreat
open Go Go.Sl
def Mem.enc (m : Mem) : List Value := [.int .i64 m.nd, .int .i64 m.sn]
instance : Enc Mem := ⟨2, Mem.enc, fun _ => rfl, fun _ => rfl, by decide⟩
abbrev CfBk (b : Nat) (c : Cfg) : Hp := [(b, .cells (List.toArray c.enc) 38 (0, 0))]
theorem cfg_ms {c : Ch} (h : c.ms.length ≤ 4) : ∃ post, c.cfg.enc = [.int .i64 c.cfg.ep, .int .i64 c.cfg.n] ++ (encs c.ms ++ post) := by
 obtain ⟨ep, ms, ln⟩ := c
 simp only [] at h
 match ms, h with
 | [], _ => exact ⟨_, rfl⟩
 | [_], _ => exact ⟨_, rfl⟩
 | [_, _], _ => exact ⟨_, rfl⟩
 | [_, _, _], _ => exact ⟨_, rfl⟩
 | [_, _, _, _], _ => exact ⟨_, rfl⟩
theorem cfg_rs {c : Ch} (h : c.ms.length ≤ 4) (b : Nat) : Rs c.ms (.slice (some ⟨b, 2, none⟩) c.ms.length 4) (CfBk b c.cfg) := by
 obtain ⟨post, e⟩ := cfg_ms h
 exact Rs.part e rfl h
def zrow (k : Nat) : List Mem := List.replicate (4 - k) Mem.z
theorem cfg_zs {c : Ch} (h : c.ms.length ≤ 4) (b : Nat) : Rs (zrow c.ms.length) (.slice (some (arAt b 2 2 4 c.ms.length)) (4 - c.ms.length) (4 - c.ms.length)) (CfBk b c.cfg) := by
 obtain ⟨ep, ms, ln⟩ := c
 simp only [] at h ⊢
 match ms, h with
 | [], _ => exact Rs.part (pre := [.int .i64 ep, .int .i64 0]) (post := (Cfg.enc (Ch.cfg ⟨ep, [], ln⟩)).drop 10) (xs := zrow 0) rfl rfl (Nat.le_refl _)
 | [a], _ => exact Rs.part (pre := [.int .i64 ep, .int .i64 1] ++ encs [a]) (post := (Cfg.enc (Ch.cfg ⟨ep, [a], ln⟩)).drop 10) (xs := zrow 1) rfl rfl (Nat.le_refl _)
 | [a, a2], _ => exact Rs.part (pre := [.int .i64 ep, .int .i64 2] ++ encs [a, a2]) (post := (Cfg.enc (Ch.cfg ⟨ep, [a, a2], ln⟩)).drop 10) (xs := zrow 2) rfl rfl (Nat.le_refl _)
 | [a, a2, a3], _ => exact Rs.part (pre := [.int .i64 ep, .int .i64 3] ++ encs [a, a2, a3]) (post := (Cfg.enc (Ch.cfg ⟨ep, [a, a2, a3], ln⟩)).drop 10) (xs := zrow 3) rfl rfl (Nat.le_refl _)
 | [_, _, _, _], _ => exact Rs.none _ rfl
theorem cloneM_ct {xs : List Mem} {v : Value} {h : Hp} (hs : Rs xs v h) (hl : xs.length ≤ 1000000) :
  Ct Tryz.prog 81 [v] [h] (fun r H' => ∃ h', IsSl 35 xs r h' ∧ H' = [h', h]) := by
 obtain ⟨p, c, rfl⟩ := hs.len
 refine Ct.mk' Tryz.func81 rfl rfl rfl (fun g R => ?_)
 try simp only [List.cons_append]
 simp only [List.nil_append]
 cases p with
 | none =>
  have hx : xs = [] := by
   obtain ⟨a, c', e, _, f⟩ := hs
   cases e
   cases xs with
   | nil => rfl
   | cons y r => obtain ⟨b, off, e, _⟩ := f 0 y rfl; cases e
  subst hx
  repeat' (first | refine go ?_ | refine mv ?_ | refine asg ?_ | (refine I.cond ?_; refine cT ?_) | (refine I.bin ?_; refine WX.eqlN rfl rfl rfl ?_) | fail)
  exact D.fin1 [[], h] _ rfl rfl ⟨_, IsSl.nil _, rfl⟩
 | some a =>
  repeat' (first | refine go ?_ | refine mv ?_ | refine asg ?_ | (refine I.cond ?_; refine cF ?_) | (refine I.bin ?_; refine WX.eqlN rfl rfl rfl ?_) | fail)
  refine I.bs ?_
  refine WX.lit (ys := ([] : List Mem)) (vs := []) rfl rfl rfl rfl rfl rfl (by decide) rfl (fun v1 h1 hs1 => ?_)
  repeat' (first | refine mv ?_ | fail)
  refine WX.app rfl rfl hs1 hs rfl rfl (by decide) (by simp only [List.length_nil]; omega) rfl (fun v2 h2 hs2 => ?_)
  rw [List.nil_append] at hs2
  repeat' (first | refine go ?_ | refine asg ?_ | fail)
  exact D.fin1 [h2, h] _ rfl rfl ⟨_, hs2, rfl⟩
theorem members_ct {c : Ch} (ok : ChOk c) :
  Ct Tryz.prog 44 [.agg (List.toArray c.cfg.enc)] [] (fun r H' => ∃ h', IsSl 35 c.all r h' ∧ H' = [h']) := by
 have h4 : c.ms.length ≤ 4 := by have := ok.l4; omega
 have hrs := cfg_rs h4
 obtain ⟨ep, ms, ln⟩ := c
 simp only [] at h4 hrs
 refine Ct.mk' Tryz.func44 rfl rfl rfl (fun g R => ?_)
 try simp only [List.cons_append]
 simp only [List.nil_append]
 cases ln with
 | none =>
  repeat' (first | refine go ?_ | (refine I.ld ?_; refine ld rfl ?_) | refine asg ?_ | (refine I.fa ?_; refine fa ?_) | refine bx rfl (fun _ => ?_) | fail)
  rename_i b
  refine WX.arTo (hi := ms.length) rfl rfl h4 rfl ?_
  skip
  refine WX.call rfl (cloneM_ct (hrs b) (by omega)) rfl ?_
  rintro _ _ ⟨h1, hs1, rfl⟩
  simp only [List.cons_append, List.nil_append]
  repeat' (first | refine go ?_ | refine mv ?_ | (refine I.ld ?_; refine ld rfl ?_) | refine asg ?_ | (refine I.fa ?_; refine fa ?_) | (refine I.cond ?_; refine cF ?_) | fail)
  exact D.fin1 [h1] _ rfl rfl ⟨h1, by simpa [Ch.all] using hs1, rfl⟩
 | some m =>
  repeat' (first | refine go ?_ | (refine I.ld ?_; refine ld rfl ?_) | refine asg ?_ | (refine I.fa ?_; refine fa ?_) | refine bx rfl (fun _ => ?_) | fail)
  rename_i b
  refine WX.arTo (hi := ms.length) rfl rfl h4 rfl ?_
  skip
  refine WX.call rfl (cloneM_ct (hrs b) (by omega)) rfl ?_
  rintro _ _ ⟨h1, hs1, rfl⟩
  simp only [List.cons_append, List.nil_append]
  repeat' (first | refine go ?_ | refine mv ?_ | (refine I.ld ?_; first | refine ld rfl ?_ | refine lA rfl ?_) | refine asg ?_ | (refine I.fa ?_; refine fa ?_) | (refine I.cond ?_; refine cT ?_) | fail)
  refine I.bs ?_
  refine WX.lit (ys := [m]) rfl rfl rfl rfl rfl rfl (by decide) rfl (fun v2 h2 hs2 => ?_)
  skip
  refine WX.app rfl rfl hs1 hs2.rs rfl rfl (by decide) (by simp only [List.length_cons, List.length_nil]; omega) rfl (fun v3 h3 hs3 => ?_)
  repeat' (first | refine go ?_ | refine mv ?_ | refine asg ?_ | fail)
  exact D.fin1 [h3] _ rfl rfl ⟨h3, by simpa [Ch.all] using hs3, rfl⟩
theorem node_ct (n : Int) : Ct Tryz.prog 45 [.int .i64 n] [] (fun r H' => r = .bool (decide (0 ≤ n ∧ n < 4)) ∧ H' = []) := by
 refine Ct.mk' Tryz.func45 rfl rfl rfl (fun g R => ?_)
 try simp only [List.cons_append]
 simp only [List.nil_append]
 by_cases h0 : 0 ≤ n
 ·repeat' (first | refine go ?_ | refine mv ?_ | refine asg ?_ | (refine I.gd ?_; first | refine gy ?_ | refine gT ?_) | (refine I.bin ?_; refine cm rfl rfl ?_) | (refine I.pk ?_; refine pT ?_) | fail)
  exact D.fin1 [] _ rfl rfl ⟨by simp [h0], rfl⟩
 ·repeat' (first | refine go ?_ | refine mv ?_ | refine asg ?_ | (refine I.gd ?_; first | refine gn ?_ | refine gF ?_) | (refine I.bin ?_; refine cm rfl rfl ?_) | (refine I.pk ?_; refine pF ?_) | fail)
  exact D.fin1 [] _ rfl rfl ⟨by simp [h0], rfl⟩
def seenL (l : List Mem) : List Value := [.bool (l.any fun m => m.nd == 0), .bool (l.any fun m => m.nd == 1), .bool (l.any fun m => m.nd == 2), .bool (l.any fun m => m.nd == 3)]
theorem seen_get {l : List Mem} {n : Int} (h0 : 0 ≤ n) (h4 : n < 4) : (seenL l)[n.toNat]? = some (.bool (l.any fun m => m.nd == n)) := by
 rcases (by omega : n = 0 ∨ n = 1 ∨ n = 2 ∨ n = 3) with rfl | rfl | rfl | rfl <;> rfl
theorem seen_set {l : List Mem} {m : Mem} (h0 : 0 ≤ m.nd) (h4 : m.nd < 4) : (seenL l).set m.nd.toNat (.bool true) = seenL (l ++ [m]) := by
 unfold seenL
 rcases (by omega : m.nd = 0 ∨ m.nd = 1 ∨ m.nd = 2 ∨ m.nd = 3) with h | h | h | h <;> rw [h] <;> simp [List.any_append, h]
theorem not_seen {c : Ch} (ok : ChOk c) {k : Nat} {m : Mem} (hk : c.all[k]? = some m) : ((c.all.take k).any fun x => x.nd == m.nd) = false := by
 rw [List.any_eq_false]
 intro x hx
 obtain ⟨h1, h2⟩ := List.getElem?_eq_some_iff.1 hk
 have e : c.all = c.all.take k ++ m :: c.all.drop (k + 1) := by rw [← h2, ← List.drop_eq_getElem_cons h1, List.take_append_drop]
 have hp := ok.up
 rw [e, List.map_append, List.map_cons, List.pairwise_append] at hp
 have := hp.2.2 x.nd (List.mem_map.2 ⟨x, hx, rfl⟩) m.nd (List.mem_cons_self ..)
 simpa using this
set_option maxRecDepth 20000 in
theorem right_ct {c : Ch} (ok : ChOk c) : Ct Tryz.prog 13 [.agg (List.toArray c.cfg.enc)] [] (fun r H' => r = .bool true ∧ H' = []) := by
 have h4 : c.ms.length ≤ 4 := by have := ok.l4; omega
 have hzs := cfg_zs h4
 have hmc := members_ct ok
 have he1 : 1 ≤ c.cfg.ep := ok.e1
 have he2 : c.cfg.ep ≤ 1099511627776 := ok.e2
 have hn1 : 1 ≤ c.cfg.n := by have := ok.l1; show (1 : Int) ≤ (c.ms.length : Int); omega
 have hn4 : c.cfg.n ≤ 4 := by show (c.ms.length : Int) ≤ 4; omega
 have hall : c.all.length ≤ 4 := by have := ok.l4; unfold Ch.all; rw [List.length_append]; exact this
 refine Ct.mk' Tryz.func13 rfl rfl rfl (fun g R => ?_)
 try simp only [List.cons_append]
 simp only [List.nil_append]
 repeat' (first | refine go ?_ | refine mv ?_ | (refine I.ld ?_; refine ld rfl ?_) | refine asg ?_ | (refine I.gd ?_; first | refine gy ?_ | refine gF ?_) | (refine I.fa ?_; refine fa ?_) | (refine I.bin ?_; refine cm rfl rfl ?_) | (refine I.pk ?_; refine pF ?_) | (refine I.cond ?_; refine cN ?_) | refine bx rfl (fun _ => ?_) | fail)
 rename_i b
 refine WX.arFrom (lo := c.ms.length) rfl rfl h4 rfl ?_
 repeat' (first | refine go ?_ | refine mv ?_ | (refine I.bi ?_; refine l1 ?_) | fail)
 have hz := hzs b
 refine W.loop (α := Nat) (fun k => k ≤ 4 - c.ms.length) (fun k => [(1, .pointer (some ⟨b, 0, none⟩)), (29, .slice (some (arAt b 2 2 4 c.ms.length)) (4 - c.ms.length) (4 - c.ms.length)), (30, .int .i64 (4 - c.ms.length : Nat)), (31, .int .i64 (k : Int))]) (fun _ => [CfBk b c.cfg, R]) (fun k => 4 - c.ms.length - k) 0 (Nat.zero_le _) (by repeat (first | exact Fsub.nil | refine Fsub.cons rfl ?_)) (Hsub.of_picks inferInstance) ?_
 intro k hk
 by_cases hlt : k < 4 - c.ms.length
 ·have hzk : (zrow c.ms.length)[k]? = some Mem.z := by unfold zrow; rw [List.getElem?_replicate, if_pos hlt]
  repeat' (first | refine go ?_ | refine mv ?_ | (refine I.ld ?_; first | refine lA rfl ?_ | refine lF rfl (by assumption) ?_) | (refine I.bin ?_; first | refine cm rfl rfl ?_ | refine ad ?_) | (refine I.cond ?_; first | refine cF ?_ | refine cP ?_) | (refine I.ix ?_; refine ix rfl rfl ?_) | (refine I.st ?_; refine sG rfl rfl ?_) | refine bd ?_ | refine al (fun _ => ?_) | (refine I.bin ?_; refine WX.neqA (b := true) rfl rfl rfl rfl ?_) | fail)
  exact D.round (k + 1) (by omega) (by omega) (by repeat (first | exact Fsub.nil | refine Fsub.cons rfl ?_)) (Hsub.of_picks inferInstance)
 ·obtain rfl : k = 4 - c.ms.length := by omega
  cases hl : c.ln with
  | none =>
   have hj : c.cfg.jo = false := by show c.ln.isSome = false; rw [hl]; rfl
   have hle : c.cfg.le = Mem.z := by show c.ln.getD Mem.z = Mem.z; rw [hl]; rfl
   repeat' (first | refine go ?_ | refine mv ?_ | (refine I.ld ?_; refine ld rfl ?_) | (refine I.fa ?_; refine fa ?_) | (refine I.bin ?_; refine cm rfl rfl ?_) | (refine I.cond ?_; refine cN ?_) | (refine I.un ?_; refine nt ?_) | fail)
   rw [hj]
   repeat' (first | (refine I.ld ?_; refine lA rfl ?_) | (refine I.gd ?_; refine gy ?_) | (refine I.fa ?_; refine fa ?_) | refine bd ?_ | fail)
   refine WX.neqA (b := true) (xs := Mem.enc c.cfg.le) rfl rfl (by rw [hle]; rfl) rfl ?_
   repeat' (first | refine go ?_ | (refine I.ld ?_; refine lA rfl ?_) | (refine I.pk ?_; refine pT ?_) | (refine I.cond ?_; refine cF ?_) | refine al (fun _ => ?_) | fail)
   rename_i b5
   refine WX.call rfl hmc rfl ?_
   rintro _ _ ⟨hm, hsm, rfl⟩
   have hrm := hsm.rs
   obtain ⟨vp, vc, rfl⟩ := hrm.len
   simp only [List.cons_append, List.nil_append]
   repeat' (first | refine go ?_ | refine mv ?_ | (refine I.bi ?_; refine ln rfl (by assumption) ?_) | fail)
   refine W.flat (H' := [hm, [(b5, .cells (List.toArray (seenL (c.all.take 0))) 101 (0, 0))], CfBk b c.cfg, R]) rfl ?_
   refine W.loop (α := Nat) (fun k => k ≤ c.all.length) (fun k => [(1, .pointer (some ⟨b, 0, none⟩)), (5, .pointer (some ⟨b5, 0, none⟩)), (49, .slice vp c.all.length vc), (50, .int .i64 (c.all.length : Nat)), (51, .int .i64 (k : Int))]) (fun k => [[(b5, .cells (List.toArray (seenL (c.all.take k))) 101 (0, 0))], CfBk b c.cfg, hm, R]) (fun k => c.all.length - k) 0 (Nat.zero_le _) (by repeat (first | exact Fsub.nil | refine Fsub.cons rfl ?_)) (Hsub.of_picks inferInstance) ?_
   intro k hk
   by_cases hlt : k < c.all.length
   ·obtain ⟨m, hmk⟩ : ∃ m, c.all[k]? = some m := ⟨_, List.getElem?_eq_getElem hlt⟩
    obtain ⟨r1, r2, r3, r4⟩ := ok.rg m (List.mem_of_getElem? hmk)
    have r4 : m.sn ≤ c.cfg.ep := r4
    have hns := not_seen ok hmk
    have hsg := seen_get (l := c.all.take k) r1 r2
    rw [hns] at hsg
    repeat' (first | refine go ?_ | (refine I.ld ?_; first | refine ld rfl ?_ | refine lF rfl (by assumption) ?_) | (refine I.fa ?_; refine fa ?_) | (refine I.bin ?_; refine cm rfl rfl ?_) | (refine I.cond ?_; refine cP ?_) | (refine I.ix ?_; refine ix rfl rfl ?_) | (refine I.st ?_; refine sG rfl rfl ?_) | refine al (fun _ => ?_) | fail)
    refine WX.callQ rfl (node_ct m.nd) rfl ?_
    rw [decide_eq_true (⟨r1, r2⟩ : 0 ≤ m.nd ∧ m.nd < 4)]
    have hsg2 : (seenL (c.all.take k))[0 + m.nd.toNat * 1]? = some (.bool false) := by rw [Nat.zero_add, Nat.mul_one]; exact hsg
    have hst : (seenL (c.all.take k)).set (0 + m.nd.toNat * 1) (.bool true) = seenL (c.all.take (k + 1)) := by rw [Nat.zero_add, Nat.mul_one, seen_set r1 r2, List.take_add_one, hmk]; rfl
    have hsl : Nat.blt (0 + m.nd.toNat * 1) (seenL (c.all.take k)).length = true := Nat.ble_eq_true_of_le (by show 0 + m.nd.toNat * 1 + 1 ≤ 4; omega)
    repeat' (first | refine mv ?_ | (refine I.ld ?_; refine ld rfl ?_) | (refine I.gd ?_; refine gy ?_) | (refine I.fa ?_; refine fa ?_) | (refine I.ix ?_; refine iP ?_) | (refine I.un ?_; refine nt ?_) | fail)
    refine WX.load rfl hsg2 rfl ?_
    repeat' (first | refine go ?_ | refine mv ?_ | (refine I.ld ?_; refine ld rfl ?_) | (refine I.gd ?_; first | refine gy ?_ | refine gF ?_) | (refine I.fa ?_; refine fa ?_) | (refine I.bin ?_; refine cm rfl rfl ?_) | (refine I.pk ?_; refine pF ?_) | (refine I.cond ?_; refine cN ?_) | (refine I.ix ?_; refine iP ?_) | fail)
    refine WX.store rfl rfl rfl hsl ?_
    rw [hst]
    repeat' (first | refine go ?_ | refine mv ?_ | (refine I.bin ?_; refine ad ?_) | fail)
    exact D.round (k + 1) (by omega) (by omega) (by repeat (first | exact Fsub.nil | refine Fsub.cons rfl ?_)) (Hsub.of_picks inferInstance)
   ·obtain rfl : k = c.all.length := by omega
    repeat' (first | refine go ?_ | refine asg ?_ | (refine I.bin ?_; refine cm rfl rfl ?_) | (refine I.cond ?_; refine cN ?_) | fail)
    exact D.fin1 [] _ rfl rfl ⟨rfl, rfl⟩
  | some m =>
   have hj : c.cfg.jo = true := by show c.ln.isSome = true; rw [hl]; rfl
   repeat' (first | refine go ?_ | refine mv ?_ | (refine I.ld ?_; refine ld rfl ?_) | (refine I.fa ?_; refine fa ?_) | (refine I.bin ?_; refine cm rfl rfl ?_) | (refine I.cond ?_; refine cN ?_) | (refine I.un ?_; refine nt ?_) | fail)
   rw [hj]
   repeat' (first | refine go ?_ | (refine I.ld ?_; refine lA rfl ?_) | (refine I.gd ?_; refine gn ?_) | (refine I.pk ?_; refine pF ?_) | (refine I.cond ?_; refine cF ?_) | refine al (fun _ => ?_) | fail)
   rename_i b5
   refine WX.call rfl hmc rfl ?_
   rintro _ _ ⟨hm, hsm, rfl⟩
   have hrm := hsm.rs
   obtain ⟨vp, vc, rfl⟩ := hrm.len
   simp only [List.cons_append, List.nil_append]
   repeat' (first | refine go ?_ | refine mv ?_ | (refine I.bi ?_; refine ln rfl (by assumption) ?_) | fail)
   refine W.flat (H' := [hm, [(b5, .cells (List.toArray (seenL (c.all.take 0))) 101 (0, 0))], CfBk b c.cfg, R]) rfl ?_
   refine W.loop (α := Nat) (fun k => k ≤ c.all.length) (fun k => [(1, .pointer (some ⟨b, 0, none⟩)), (5, .pointer (some ⟨b5, 0, none⟩)), (49, .slice vp c.all.length vc), (50, .int .i64 (c.all.length : Nat)), (51, .int .i64 (k : Int))]) (fun k => [[(b5, .cells (List.toArray (seenL (c.all.take k))) 101 (0, 0))], CfBk b c.cfg, hm, R]) (fun k => c.all.length - k) 0 (Nat.zero_le _) (by repeat (first | exact Fsub.nil | refine Fsub.cons rfl ?_)) (Hsub.of_picks inferInstance) ?_
   intro k hk
   by_cases hlt : k < c.all.length
   ·obtain ⟨m, hmk⟩ : ∃ m, c.all[k]? = some m := ⟨_, List.getElem?_eq_getElem hlt⟩
    obtain ⟨r1, r2, r3, r4⟩ := ok.rg m (List.mem_of_getElem? hmk)
    have r4 : m.sn ≤ c.cfg.ep := r4
    have hns := not_seen ok hmk
    have hsg := seen_get (l := c.all.take k) r1 r2
    rw [hns] at hsg
    repeat' (first | refine go ?_ | (refine I.ld ?_; first | refine ld rfl ?_ | refine lF rfl (by assumption) ?_) | (refine I.fa ?_; refine fa ?_) | (refine I.bin ?_; refine cm rfl rfl ?_) | (refine I.cond ?_; refine cP ?_) | (refine I.ix ?_; refine ix rfl rfl ?_) | (refine I.st ?_; refine sG rfl rfl ?_) | refine al (fun _ => ?_) | fail)
    refine WX.callQ rfl (node_ct m.nd) rfl ?_
    rw [decide_eq_true (⟨r1, r2⟩ : 0 ≤ m.nd ∧ m.nd < 4)]
    have hsg2 : (seenL (c.all.take k))[0 + m.nd.toNat * 1]? = some (.bool false) := by rw [Nat.zero_add, Nat.mul_one]; exact hsg
    have hst : (seenL (c.all.take k)).set (0 + m.nd.toNat * 1) (.bool true) = seenL (c.all.take (k + 1)) := by rw [Nat.zero_add, Nat.mul_one, seen_set r1 r2, List.take_add_one, hmk]; rfl
    have hsl : Nat.blt (0 + m.nd.toNat * 1) (seenL (c.all.take k)).length = true := Nat.ble_eq_true_of_le (by show 0 + m.nd.toNat * 1 + 1 ≤ 4; omega)
    repeat' (first | refine mv ?_ | (refine I.ld ?_; refine ld rfl ?_) | (refine I.gd ?_; refine gy ?_) | (refine I.fa ?_; refine fa ?_) | (refine I.ix ?_; refine iP ?_) | (refine I.un ?_; refine nt ?_) | fail)
    refine WX.load rfl hsg2 rfl ?_
    repeat' (first | refine go ?_ | refine mv ?_ | (refine I.ld ?_; refine ld rfl ?_) | (refine I.gd ?_; first | refine gy ?_ | refine gF ?_) | (refine I.fa ?_; refine fa ?_) | (refine I.bin ?_; refine cm rfl rfl ?_) | (refine I.pk ?_; refine pF ?_) | (refine I.cond ?_; refine cN ?_) | (refine I.ix ?_; refine iP ?_) | fail)
    refine WX.store rfl rfl rfl hsl ?_
    rw [hst]
    repeat' (first | refine go ?_ | refine mv ?_ | (refine I.bin ?_; refine ad ?_) | fail)
    exact D.round (k + 1) (by omega) (by omega) (by repeat (first | exact Fsub.nil | refine Fsub.cons rfl ?_)) (Hsub.of_picks inferInstance)
   ·obtain rfl : k = c.all.length := by omega
    repeat' (first | refine go ?_ | refine asg ?_ | (refine I.bin ?_; refine cm rfl rfl ?_) | (refine I.cond ?_; refine cN ?_) | fail)
    exact D.fin1 [] _ rfl rfl ⟨rfl, rfl⟩
end Go.Proofs.YtfcefidmdijjkaaGreat

namespace Go.Proofs.YtfcefidmdijjkaaGreat
open Go Go.Sl
def chRes (o : Option Ch) : Value := .tuple (List.toArray [.agg (List.toArray (match o with | some c => c.cfg | none => Cfg.z).enc), .bool o.isSome])
def partM (k i : Nat) : Mem := if i < k then ⟨(i : Int), 1⟩ else Mem.z
def partC (n k : Nat) : Cfg := ⟨1, (n : Int), partM k 0, partM k 1, partM k 2, partM k 3, false, Mem.z⟩
theorem partC_all {n : Nat} (h1 : 1 ≤ n) (h4 : n ≤ 4) : partC n n = (firstCh n).cfg := by
 match n, h1, h4 with
 | 1, _, _ => rfl
 | 2, _, _ => rfl
 | 3, _, _ => rfl
 | 4, _, _ => rfl
theorem first_ct {n : Nat} (h1 : 1 ≤ n) (h4 : n ≤ 4) : Ct Tryz.prog 27 [.int .i64 (n : Int)] [] (fun r H' => r = chRes (some (firstCh n)) ∧ H' = []) := by
 have hz : Cfg.enc (partC n 0) = Cfg.enc ⟨1, (n : Int), Mem.z, Mem.z, Mem.z, Mem.z, false, Mem.z⟩ := rfl
 refine Ct.mk' Tryz.func27 rfl rfl rfl (fun g R => ?_)
 try simp only [List.cons_append]
 simp only [List.nil_append]
 repeat' (first | refine go ?_ | refine mv ?_ | refine asg ?_ | (refine I.gd ?_; first | refine gy ?_ | refine gF ?_) | (refine I.bin ?_; refine cm rfl rfl ?_) | (refine I.pk ?_; refine pF ?_) | (refine I.cond ?_; refine cN ?_) | (refine I.st ?_; refine sG rfl rfl ?_) | refine bd ?_ | refine al (fun _ => ?_) | fail)
 rename_i b2 b4
 refine W.flat (H' := [CfBk b4 (partC n 0), CfBk b2 Cfg.z, R]) rfl ?_
 refine W.loop (α := Nat) (fun k => k ≤ n) (fun k => [(2, .pointer (some ⟨b2, 0, none⟩)), (3, .bool false), (4, .pointer (some ⟨b4, 0, none⟩)), (15, .int .i64 (n : Int)), (16, .int .i64 (k : Int))]) (fun k => [CfBk b4 (partC n k), CfBk b2 Cfg.z, R]) (fun k => n - k) 0 (Nat.zero_le _) (by repeat (first | exact Fsub.nil | refine Fsub.cons rfl ?_)) (Hsub.of_picks inferInstance) ?_
 intro k hk
 by_cases hlt : k < n
 ·rcases (by omega : k = 0 ∨ k = 1 ∨ k = 2 ∨ k = 3) with rfl | rfl | rfl | rfl
  ·repeat' (first | refine go ?_ | refine mv ?_ | refine asg ?_ | (refine I.fa ?_; refine fa ?_) | (refine I.bin ?_; first | refine cm rfl rfl ?_ | refine ad ?_) | (refine I.cond ?_; refine cP ?_) | (refine I.ix ?_; refine iP ?_) | (refine I.st ?_; refine sG rfl rfl ?_) | refine bd ?_ | fail)
   refine D.flat (H' := [CfBk b4 (partC n (0 + 1)), CfBk b2 Cfg.z, R]) rfl ?_
   exact D.round (0 + 1) (by omega) (by omega) (by repeat (first | exact Fsub.nil | refine Fsub.cons rfl ?_)) (Hsub.of_picks inferInstance)
  ·repeat' (first | refine go ?_ | refine mv ?_ | refine asg ?_ | (refine I.fa ?_; refine fa ?_) | (refine I.bin ?_; first | refine cm rfl rfl ?_ | refine ad ?_) | (refine I.cond ?_; refine cP ?_) | (refine I.ix ?_; refine iP ?_) | (refine I.st ?_; refine sG rfl rfl ?_) | refine bd ?_ | fail)
   refine D.flat (H' := [CfBk b4 (partC n (1 + 1)), CfBk b2 Cfg.z, R]) rfl ?_
   exact D.round (1 + 1) (by omega) (by omega) (by repeat (first | exact Fsub.nil | refine Fsub.cons rfl ?_)) (Hsub.of_picks inferInstance)
  ·repeat' (first | refine go ?_ | refine mv ?_ | refine asg ?_ | (refine I.fa ?_; refine fa ?_) | (refine I.bin ?_; first | refine cm rfl rfl ?_ | refine ad ?_) | (refine I.cond ?_; refine cP ?_) | (refine I.ix ?_; refine iP ?_) | (refine I.st ?_; refine sG rfl rfl ?_) | refine bd ?_ | fail)
   refine D.flat (H' := [CfBk b4 (partC n (2 + 1)), CfBk b2 Cfg.z, R]) rfl ?_
   exact D.round (2 + 1) (by omega) (by omega) (by repeat (first | exact Fsub.nil | refine Fsub.cons rfl ?_)) (Hsub.of_picks inferInstance)
  ·repeat' (first | refine go ?_ | refine mv ?_ | refine asg ?_ | (refine I.fa ?_; refine fa ?_) | (refine I.bin ?_; first | refine cm rfl rfl ?_ | refine ad ?_) | (refine I.cond ?_; refine cP ?_) | (refine I.ix ?_; refine iP ?_) | (refine I.st ?_; refine sG rfl rfl ?_) | refine bd ?_ | fail)
   refine D.flat (H' := [CfBk b4 (partC n (3 + 1)), CfBk b2 Cfg.z, R]) rfl ?_
   exact D.round (3 + 1) (by omega) (by omega) (by repeat (first | exact Fsub.nil | refine Fsub.cons rfl ?_)) (Hsub.of_picks inferInstance)
 ·obtain rfl : k = n := by omega
  rw [partC_all h1 h4]
  repeat' (first | refine go ?_ | (refine I.ld ?_; refine lA rfl ?_) | refine asg ?_ | (refine I.bin ?_; refine cm rfl rfl ?_) | (refine I.cond ?_; refine cN ?_) | (refine I.st ?_; refine sG rfl rfl ?_) | fail)
  exact D.finR [] _ rfl (.cellA rfl rfl (.tmp rfl .nil)) rfl ⟨rfl, rfl⟩
abbrev NBk (nb : Nat) (k : Int) : Hp := [(nb, .cells (List.toArray [.int .i64 k]) 3 (0, 0))]
def woV (nb : Nat) : Value := .func (.func 97) (List.toArray []) (List.toArray [.pointer (some ⟨nb, 0, none⟩)])
def wiV (nb : Nat) : Value := .func (.func 93) (List.toArray []) (List.toArray [.pointer (some ⟨nb, 0, none⟩)])
theorem isWo_ct (nb : Nat) (k : Int) (m : Mem) : Ct Tryz.prog 97 [.agg (Enc.enc m).toArray, .pointer (some ⟨nb, 0, none⟩)] [NBk nb k] (fun r H' => r = .bool (decide (m.nd = k)) ∧ H' = [NBk nb k]) := by
 refine Ct.mk' Tryz.func97 rfl rfl rfl (fun g R => ?_)
 try simp only [List.cons_append]
 simp only [List.nil_append]
 repeat' (first | refine go ?_ | (refine I.ld ?_; refine ld rfl ?_) | refine asg ?_ | (refine I.fa ?_; refine fa ?_) | (refine I.bin ?_; refine cm rfl rfl ?_) | refine bx rfl (fun _ => ?_) | fail)
 exact D.fin1 [NBk nb k] _ rfl rfl ⟨rfl, rfl⟩
theorem isWi_ct (nb : Nat) (k : Int) (m : Mem) : Ct Tryz.prog 93 [.agg (Enc.enc m).toArray, .pointer (some ⟨nb, 0, none⟩)] [NBk nb k] (fun r H' => r = .bool (decide (m.nd = k)) ∧ H' = [NBk nb k]) := by
 refine Ct.mk' Tryz.func93 rfl rfl rfl (fun g R => ?_)
 try simp only [List.cons_append]
 simp only [List.nil_append]
 repeat' (first | refine go ?_ | (refine I.ld ?_; refine ld rfl ?_) | refine asg ?_ | (refine I.fa ?_; refine fa ?_) | (refine I.bin ?_; refine cm rfl rfl ?_) | refine bx rfl (fun _ => ?_) | fail)
 exact D.fin1 [NBk nb k] _ rfl rfl ⟨rfl, rfl⟩
def plc (ms : List Mem) (k : Int) : Int := match ms.findIdx? (fun p => decide (p.nd = k)) with | none => -1 | some i => (i : Int)
theorem plc_some {ms : List Mem} {k : Int} {j : Nat} {p : Mem} (hp : ms[j]? = some p) (hpk : p.nd = k) (hall : ∀ i p, i < j → ms[i]? = some p → ¬ p.nd = k) : plc ms k = (j : Int) := by
 have hf : ms.findIdx? (fun p => decide (p.nd = k)) = some j := by
  rw [List.findIdx?_eq_some_iff_getElem]
  obtain ⟨h1, h2⟩ := List.getElem?_eq_some_iff.1 hp
  refine ⟨h1, by rw [h2]; simpa using hpk, fun i hi => ?_⟩
  have := hall i _ hi (List.getElem?_eq_getElem (by omega))
  simpa using this
 unfold plc; rw [hf]
theorem plc_none {ms : List Mem} {k : Int} (hall : ∀ p ∈ ms, ¬ p.nd = k) : plc ms k = -1 := by
 have hf : ms.findIdx? (fun p => decide (p.nd = k)) = none := by
  rw [List.findIdx?_eq_none_iff]
  intro x hx
  simpa using hall x hx
 unfold plc; rw [hf]
theorem idxWo_ct {ps : List Mem} {v : Value} {h : Hp} (hs : Rs ps v h) (nb : Nat) (k : Int) (hl : ps.length ≤ 1000000) :
  Ct Tryz.prog 96 [v, woV nb] [h, NBk nb k] (fun r H' => r = .int .i64 (plc ps k) ∧ H' = [h, NBk nb k]) := by
 refine Ct.mk' Tryz.func96 rfl rfl rfl (fun g R => ?_)
 try simp only [List.cons_append]
 simp only [List.nil_append]
 repeat' (first | refine go ?_ | refine mv ?_ | refine asg ?_ | (refine I.bi ?_; refine ln rfl (by assumption) ?_) | fail)
 refine W.loop (α := Nat) (fun j => j ≤ ps.length ∧ ∀ i p, i < j → ps[i]? = some p → ¬ p.nd = k) (fun j => [(0, v), (1, woV nb), (7, .int .i64 (ps.length : Int)), (8, .int .i64 (j : Int))]) (fun _ => [h, NBk nb k, R]) (fun j => ps.length - j) 0 ⟨Nat.zero_le _, fun i p hi => absurd hi (Nat.not_lt_zero _)⟩ (by repeat (first | exact Fsub.nil | refine Fsub.cons rfl ?_)) (Hsub.of_picks inferInstance) ?_
 rintro j ⟨hj, hall⟩
 by_cases hlt : j < ps.length
 ·obtain ⟨p, hp⟩ : ∃ p, ps[j]? = some p := ⟨_, List.getElem?_eq_getElem hlt⟩
  repeat' (first | refine go ?_ | refine mv ?_ | (refine I.ld ?_; refine lF rfl (by assumption) ?_) | refine asg ?_ | (refine I.bin ?_; refine cm rfl rfl ?_) | (refine I.cond ?_; refine cP ?_) | (refine I.ix ?_; refine ix rfl rfl ?_) | fail)
  refine WX.callV rfl rfl (isWo_ct nb k p) rfl ?_
  rintro _ _ ⟨rfl, rfl⟩
  by_cases hpk : p.nd = k
  ·simp only [List.cons_append, List.nil_append]
   repeat' (first | refine go ?_ | refine mv ?_ | refine asg ?_ | (refine I.cond ?_; refine cP ?_) | fail)
   exact D.fin1 [h, NBk nb k] _ rfl rfl ⟨by rw [plc_some hp hpk hall], rfl⟩
  ·simp only [List.cons_append, List.nil_append]
   repeat' (first | refine go ?_ | refine mv ?_ | (refine I.bin ?_; refine ad ?_) | (refine I.cond ?_; refine cN ?_) | fail)
   refine D.round (j + 1) ⟨by omega, fun i p' hi hp' => ?_⟩ (by omega) (by repeat (first | exact Fsub.nil | refine Fsub.cons rfl ?_)) (Hsub.of_picks inferInstance)
   rcases Nat.lt_or_ge i j with h | h
   ·exact hall i p' h hp'
   ·obtain rfl : i = j := by omega
    rw [hp] at hp'
    cases hp'
    exact hpk
 ·have hno : ∀ p ∈ ps, ¬ p.nd = k := fun x hx => by
   obtain ⟨i, hi⟩ := List.mem_iff_getElem?.1 hx
   have hlt := (List.getElem?_eq_some_iff.1 hi).1
   exact hall i x (by omega) hi
  repeat' (first | refine go ?_ | refine asg ?_ | (refine I.bin ?_; refine cm rfl rfl ?_) | (refine I.cond ?_; refine cN ?_) | fail)
  exact D.fin1 [h, NBk nb k] _ rfl rfl ⟨by rw [plc_none hno], rfl⟩
theorem idxWi_ct {ps : List Mem} {v : Value} {h : Hp} (hs : Rs ps v h) (nb : Nat) (k : Int) (hl : ps.length ≤ 1000000) :
  Ct Tryz.prog 96 [v, wiV nb] [h, NBk nb k] (fun r H' => r = .int .i64 (plc ps k) ∧ H' = [h, NBk nb k]) := by
 refine Ct.mk' Tryz.func96 rfl rfl rfl (fun g R => ?_)
 try simp only [List.cons_append]
 simp only [List.nil_append]
 repeat' (first | refine go ?_ | refine mv ?_ | refine asg ?_ | (refine I.bi ?_; refine ln rfl (by assumption) ?_) | fail)
 refine W.loop (α := Nat) (fun j => j ≤ ps.length ∧ ∀ i p, i < j → ps[i]? = some p → ¬ p.nd = k) (fun j => [(0, v), (1, wiV nb), (7, .int .i64 (ps.length : Int)), (8, .int .i64 (j : Int))]) (fun _ => [h, NBk nb k, R]) (fun j => ps.length - j) 0 ⟨Nat.zero_le _, fun i p hi => absurd hi (Nat.not_lt_zero _)⟩ (by repeat (first | exact Fsub.nil | refine Fsub.cons rfl ?_)) (Hsub.of_picks inferInstance) ?_
 rintro j ⟨hj, hall⟩
 by_cases hlt : j < ps.length
 ·obtain ⟨p, hp⟩ : ∃ p, ps[j]? = some p := ⟨_, List.getElem?_eq_getElem hlt⟩
  repeat' (first | refine go ?_ | refine mv ?_ | (refine I.ld ?_; refine lF rfl (by assumption) ?_) | refine asg ?_ | (refine I.bin ?_; refine cm rfl rfl ?_) | (refine I.cond ?_; refine cP ?_) | (refine I.ix ?_; refine ix rfl rfl ?_) | fail)
  refine WX.callV rfl rfl (isWi_ct nb k p) rfl ?_
  rintro _ _ ⟨rfl, rfl⟩
  by_cases hpk : p.nd = k
  ·simp only [List.cons_append, List.nil_append]
   repeat' (first | refine go ?_ | refine mv ?_ | refine asg ?_ | (refine I.cond ?_; refine cP ?_) | fail)
   exact D.fin1 [h, NBk nb k] _ rfl rfl ⟨by rw [plc_some hp hpk hall], rfl⟩
  ·simp only [List.cons_append, List.nil_append]
   repeat' (first | refine go ?_ | refine mv ?_ | (refine I.bin ?_; refine ad ?_) | (refine I.cond ?_; refine cN ?_) | fail)
   refine D.round (j + 1) ⟨by omega, fun i p' hi hp' => ?_⟩ (by omega) (by repeat (first | exact Fsub.nil | refine Fsub.cons rfl ?_)) (Hsub.of_picks inferInstance)
   rcases Nat.lt_or_ge i j with h | h
   ·exact hall i p' h hp'
   ·obtain rfl : i = j := by omega
    rw [hp] at hp'
    cases hp'
    exact hpk
 ·have hno : ∀ p ∈ ps, ¬ p.nd = k := fun x hx => by
   obtain ⟨i, hi⟩ := List.mem_iff_getElem?.1 hx
   have hlt := (List.getElem?_eq_some_iff.1 hi).1
   exact hall i x (by omega) hi
  repeat' (first | refine go ?_ | refine asg ?_ | (refine I.bin ?_; refine cm rfl rfl ?_) | (refine I.cond ?_; refine cN ?_) | fail)
  exact D.fin1 [h, NBk nb k] _ rfl rfl ⟨by rw [plc_none hno], rfl⟩
theorem contains_ct {ms : List Mem} {v : Value} {h : Hp} (hs : Rs ms v h) (nb : Nat) (k : Int) (hl : ms.length ≤ 1000000) :
  Ct Tryz.prog 92 [v, wiV nb] [h, NBk nb k] (fun r H' => r = .bool (decide (0 ≤ plc ms k)) ∧ H' = [h, NBk nb k]) := by
 refine Ct.mk' Tryz.func92 rfl rfl rfl (fun g R => ?_)
 try simp only [List.cons_append]
 simp only [List.nil_append]
 repeat' (first | refine go ?_ | refine mv ?_ | refine asg ?_ | fail)
 refine WX.call rfl (idxWi_ct hs nb k hl) rfl ?_
 rintro _ _ ⟨rfl, rfl⟩
 simp only [List.cons_append, List.nil_append]
 repeat' (first | refine go ?_ | refine asg ?_ | (refine I.bin ?_; refine cm rfl rfl ?_) | fail)
 exact D.fin1 [h, NBk nb k] _ rfl rfl ⟨rfl, rfl⟩
end Go.Proofs.YtfcefidmdijjkaaGreat

namespace Go.Proofs.YtfcefidmdijjkaaGreat
open Go Go.Sl
theorem plc_has {c : Ch} {k : Int} : decide (0 ≤ plc c.ms k) = c.has k := by
 by_cases h : ∃ p ∈ c.ms, p.nd = k
 ·rw [Ch.has_iff.2 h]
  unfold plc
  cases hf : c.ms.findIdx? (fun p => decide (p.nd = k)) with
  | none =>
   rw [List.findIdx?_eq_none_iff] at hf
   obtain ⟨p, hp, e⟩ := h
   have := hf p hp
   simp [e] at this
  | some i => simp
 ·have hn : c.has k = false := by
   cases hh : c.has k with
   | false => rfl
   | true => exact absurd (Ch.has_iff.1 hh) h
  rw [hn, plc_none (fun p hp e => h ⟨p, hp, e⟩)]
  rfl
theorem up_l4 {c : Ch} (ok : ChOk c) : c.ms.length ≤ 4 := by have := ok.l4; omega
def Ch.on (c : Ch) : Ch := ⟨c.ep + 1, c.ms, c.ln⟩
def Cfg.jl (c : Cfg) (v : Bool × Mem) : Cfg := ⟨c.ep, c.n, c.f0, c.f1, c.f2, c.f3, v.1, v.2⟩
theorem withF_ct {c : Ch} (ok : ChOk c) (he : c.ep ≠ 1099511627776) (b nb : Nat) (k : Int) :
  Ct Tryz.prog 91 [.pointer (some ⟨b, 0, none⟩), .pointer (some ⟨nb, 0, none⟩)] [CfBk b c.on.cfg, NBk nb k]
   (fun r H' => ∃ c2, r = .bool (addL c k).isSome ∧ H' = [CfBk b c2, NBk nb k] ∧ ∀ c', addL c k = some c' → c2 = c'.cfg) := by
 have h4 := up_l4 ok
 have hrs := cfg_rs (c := c.on) h4 b
 have hcn := contains_ct hrs nb k (by show c.ms.length ≤ 1000000; omega)
 have hph : decide (0 ≤ plc c.on.ms k) = c.has k := plc_has
 rw [hph] at hcn
 refine Ct.mk' Tryz.func91 rfl rfl rfl (fun g R => ?_)
 try simp only [List.cons_append]
 simp only [List.nil_append]
 cases hl : c.ln with
 | some m =>
  have hj : c.on.cfg.jo = true := by show c.ln.isSome = true; rw [hl]; rfl
  have ha : addL c k = none := by unfold addL; rw [if_pos (.inr (.inl (by rw [hl]; rfl)))]
  repeat' (first | refine go ?_ | refine asg ?_ | fail)
  refine W.quiet Tryz.mix (by kernel_rfl) ?_
  repeat' (first | refine mv ?_ | (refine I.ld ?_; refine ld rfl ?_) | (refine I.fa ?_; refine fa ?_) | (refine I.nc ?_; refine nc ?_) | fail)
  rw [hj]
  repeat' (first | refine go ?_ | refine mv ?_ | refine asg ?_ | (refine I.gd ?_; refine gn ?_) | (refine I.pk ?_; refine pT ?_) | (refine I.cond ?_; refine cT ?_) | fail)
  rw [ha]
  exact D.fin1 [CfBk b c.on.cfg, NBk nb k] _ rfl rfl ⟨_, rfl, rfl, fun c' h => by cases h⟩
 | none =>
  have hj : c.on.cfg.jo = false := by show c.ln.isSome = false; rw [hl]; rfl
  repeat' (first | refine go ?_ | refine asg ?_ | fail)
  refine W.quiet Tryz.mix (by kernel_rfl) ?_
  repeat' (first | refine mv ?_ | (refine I.ld ?_; refine ld rfl ?_) | (refine I.fa ?_; refine fa ?_) | (refine I.nc ?_; refine nc ?_) | fail)
  rw [hj]
  repeat' (first | (refine I.ld ?_; refine ld rfl ?_) | (refine I.gd ?_; refine gy ?_) | fail)
  refine WX.callQ rfl (node_ct k) rfl ?_
  by_cases hk : 0 ≤ k ∧ k < 4
  ·rw [decide_eq_true hk]
   repeat' (first | refine mv ?_ | (refine I.ld ?_; refine ld rfl ?_) | (refine I.gd ?_; refine gy ?_) | (refine I.fa ?_; refine fa ?_) | (refine I.nc ?_; refine nc ?_) | (refine I.pk ?_; refine pF ?_) | (refine I.un ?_; refine nt ?_) | fail)
   refine WX.arTo (hi := c.ms.length) rfl rfl h4 rfl ?_
   repeat' (first | (refine I.gd ?_; refine gy ?_) | (refine WX.makeFunc (first := []) rfl rfl rfl ?_) | fail)
   refine WX.callQ rfl hcn rfl ?_
   cases hh : c.has k with
   | true =>
    have ha : addL c k = none := by unfold addL; rw [if_pos (.inr (.inr (.inr (.inr hh))))]
    repeat' (first | refine go ?_ | refine asg ?_ | (refine I.pk ?_; refine pF ?_) | (refine I.cond ?_; refine cT ?_) | fail)
    rw [ha]
    exact D.fin1 [CfBk b c.on.cfg, NBk nb k] _ rfl rfl ⟨_, rfl, rfl, fun c' h => by cases h⟩
   | false =>
    have ha : addL c k = some ⟨c.ep + 1, c.ms, some ⟨k, c.ep + 1⟩⟩ := by
     unfold addL
     rw [if_neg]
     rintro (h | h | h | h | h)
     ·exact he h
     ·rw [hl] at h; cases h
     ·omega
     ·omega
     ·rw [hh] at h; cases h
    repeat' (first | refine go ?_ | (refine I.pk ?_; refine pF ?_) | (refine I.cond ?_; refine cF ?_) | fail)
    have hc1 : ∀ (g : World) w, Cf g (fun v : Bool × Mem => [CfBk b (c.on.cfg.jl v), NBk nb k]) w → w.cell? ⟨nb, 0, none⟩ = some (.int .i64 k) := fun g w hw => by
     obtain ⟨v, h⟩ := hw
     have h1 := h.2.2 nb _ (List.mem_cons_of_mem _ (List.mem_cons_self ..))
     rw [cell_bk h1]; rfl
    have hc2 : ∀ (g : World) w, Cf g (fun v : Bool × Mem => [CfBk b (c.on.cfg.jl v), NBk nb k]) w → w.cell? ⟨b, 0 + 0, none⟩ = some (.int .i64 c.on.cfg.ep) := fun g w hw => by
     obtain ⟨v, h⟩ := hw
     have h1 := h.2.2 b _ (List.mem_cons_self ..)
     rw [cell_bk h1]; rfl
    refine W.flat (H' := [CfBk b (c.on.cfg.jl (false, c.on.cfg.le)), NBk nb k, R]) (by rw [← hj]; rfl) ?_
    refine W.mixC (List.replicate 10 true ++ [false, true, true, false]) (Cf g (fun v : Bool × Mem => [CfBk b (c.on.cfg.jl v), NBk nb k])) (fun w h => Cf.of (false, c.on.cfg.le) h) Tryz.mix (by kernel_rfl) ?_
    repeat' (first | refine go ?_ | refine mv ?_ | (refine I.fa ?_; refine fa ?_) | (refine I.nc ?_; refine nc ?_) | (refine I.st ?_; refine st rfl rfl ?_) | refine bd ?_ | refine WN.load rfl (hc1 g) rfl ?_ | refine WN.load rfl (hc2 g) rfl ?_ | refine WN.un0 (fun _ h => Cf.amb h) ?_ | refine WN.back0 ?_ | refine WN.an ?_ | fail)
    refine D.flat (H' := [CfBk b (c.on.cfg.jl (true, c.on.cfg.le)), NBk nb k, R]) rfl ?_
    refine WN.back (fun w h => Cf.of (true, c.on.cfg.le) h) ?_
    repeat' (first | refine go ?_ | (refine I.fa ?_; refine fa ?_) | (refine I.nc ?_; refine nc ?_) | (refine I.st ?_; refine sG rfl rfl ?_) | refine WN.un0 (fun _ h => Cf.amb h) ?_ | refine WN.back0 ?_ | refine WN.an ?_ | fail)
    refine D.flat (H' := [CfBk b (c.on.cfg.jl (true, ⟨k, c.ep + 1⟩)), NBk nb k, R]) rfl ?_
    refine WN.back (fun w h => Cf.of (true, ⟨k, c.ep + 1⟩) h) ?_
    repeat' (first | refine go ?_ | refine asg ?_ | refine WX.nil ?_ | refine WN.nil ?_ | fail)
    rw [ha]
    exact D.fin1 [CfBk b (c.on.cfg.jl (true, ⟨k, c.ep + 1⟩)), NBk nb k] _ rfl rfl ⟨_, rfl, rfl, fun c' h => by cases h; rfl⟩
  ·rw [decide_eq_false hk]
   have ha : addL c k = none := by unfold addL; rw [if_pos (by omega)]
   repeat' (first | refine go ?_ | refine mv ?_ | refine asg ?_ | (refine I.gd ?_; first | refine gy ?_ | refine gn ?_) | (refine I.pk ?_; first | refine pT ?_ | refine pF ?_) | (refine I.cond ?_; refine cT ?_) | (refine I.un ?_; refine nt ?_) | fail)
   rw [ha]
   exact D.fin1 [CfBk b c.on.cfg, NBk nb k] _ rfl rfl ⟨_, rfl, rfl, fun c' h => by cases h⟩
theorem growF_ct {c : Ch} (ok : ChOk c) (he : c.ep ≠ 1099511627776) (b : Nat) :
  Ct Tryz.prog 94 [.pointer (some ⟨b, 0, none⟩)] [CfBk b c.on.cfg]
   (fun r H' => ∃ c2, r = .bool (growL c).isSome ∧ H' = [CfBk b c2] ∧ ∀ c', growL c = some c' → c2 = c'.cfg) := by
 have h4 := ok.l4
 have h1 := ok.l1
 refine Ct.mk' Tryz.func94 rfl rfl rfl (fun g R => ?_)
 try simp only [List.cons_append]
 simp only [List.nil_append]
 cases hl : c.ln with
 | none =>
  have hj : c.on.cfg.jo = false := by show c.ln.isSome = false; rw [hl]; rfl
  have ha : growL c = none := by unfold growL; rw [if_neg he, hl]
  repeat' (first | refine go ?_ | refine mv ?_ | (refine I.ld ?_; refine ld rfl ?_) | refine asg ?_ | (refine I.fa ?_; refine fa ?_) | (refine I.nc ?_; refine nc ?_) | (refine I.un ?_; refine nt ?_) | fail)
  rw [hj]
  repeat' (first | refine go ?_ | refine asg ?_ | (refine I.cond ?_; refine cT ?_) | fail)
  rw [ha]
  exact D.fin1 [CfBk b c.on.cfg] _ rfl rfl ⟨_, rfl, rfl, fun c' h => by cases h⟩
 | some m =>
  have ha : growL c = some ⟨c.ep + 1, c.ms ++ [m], none⟩ := by unfold growL; rw [if_neg he, hl]
  rw [ha]
  rw [hl] at h4
  simp only [Option.toList, List.length_cons, List.length_nil] at h4
  obtain ⟨ep, ms, ln⟩ := c
  simp only [] at hl h4 h1
  subst hl
  match ms, h1, h4 with
  | [a], _, _ =>
   have hnn : (Ch.on ⟨ep, [a], some m⟩).cfg.n = 1 := rfl
   repeat' (first | refine go ?_ | refine mv ?_ | (refine I.ld ?_; refine ld rfl ?_) | refine asg ?_ | (refine I.fa ?_; refine fa ?_) | (refine I.nc ?_; refine nc ?_) | (refine I.cond ?_; refine cF ?_) | (refine I.un ?_; refine nt ?_) | fail)
   refine W.mixN 8 (List.replicate 12 true) [CfBk b (Ch.on ⟨ep, [a], some m⟩).cfg] Tryz.mix (by kernel_rfl) ?_
   repeat' (first | refine go ?_ | refine mv ?_ | (refine I.ld ?_; first | refine ld rfl ?_ | refine lA rfl ?_) | refine asg ?_ | (refine I.fa ?_; refine fa ?_) | (refine I.nc ?_; refine nc ?_) | (refine I.bin ?_; refine ad ?_) | refine mN ?_ | refine mU ?_ | (refine I.ix ?_; refine iP ?_) | (refine I.st ?_; first | refine st rfl rfl ?_ | refine sG rfl rfl ?_) | refine bd ?_ | fail)
   refine D.flat (H' := [CfBk b (Ch.cfg ⟨ep + 1, [a, m], none⟩), R]) rfl ?_
   exact D.fin1 [CfBk b (Ch.cfg ⟨ep + 1, [a, m], none⟩)] _ rfl rfl ⟨_, rfl, rfl, fun c' h => by cases h; rfl⟩
  | [a, a2], _, _ =>
   have hnn : (Ch.on ⟨ep, [a, a2], some m⟩).cfg.n = 2 := rfl
   repeat' (first | refine go ?_ | refine mv ?_ | (refine I.ld ?_; refine ld rfl ?_) | refine asg ?_ | (refine I.fa ?_; refine fa ?_) | (refine I.nc ?_; refine nc ?_) | (refine I.cond ?_; refine cF ?_) | (refine I.un ?_; refine nt ?_) | fail)
   refine W.mixN 8 (List.replicate 12 true) [CfBk b (Ch.on ⟨ep, [a, a2], some m⟩).cfg] Tryz.mix (by kernel_rfl) ?_
   repeat' (first | refine go ?_ | refine mv ?_ | (refine I.ld ?_; first | refine ld rfl ?_ | refine lA rfl ?_) | refine asg ?_ | (refine I.fa ?_; refine fa ?_) | (refine I.nc ?_; refine nc ?_) | (refine I.bin ?_; refine ad ?_) | refine mN ?_ | refine mU ?_ | (refine I.ix ?_; refine iP ?_) | (refine I.st ?_; first | refine st rfl rfl ?_ | refine sG rfl rfl ?_) | refine bd ?_ | fail)
   refine D.flat (H' := [CfBk b (Ch.cfg ⟨ep + 1, [a, a2, m], none⟩), R]) rfl ?_
   exact D.fin1 [CfBk b (Ch.cfg ⟨ep + 1, [a, a2, m], none⟩)] _ rfl rfl ⟨_, rfl, rfl, fun c' h => by cases h; rfl⟩
  | [a, a2, a3], _, _ =>
   have hnn : (Ch.on ⟨ep, [a, a2, a3], some m⟩).cfg.n = 3 := rfl
   repeat' (first | refine go ?_ | refine mv ?_ | (refine I.ld ?_; refine ld rfl ?_) | refine asg ?_ | (refine I.fa ?_; refine fa ?_) | (refine I.nc ?_; refine nc ?_) | (refine I.cond ?_; refine cF ?_) | (refine I.un ?_; refine nt ?_) | fail)
   refine W.mixN 8 (List.replicate 12 true) [CfBk b (Ch.on ⟨ep, [a, a2, a3], some m⟩).cfg] Tryz.mix (by kernel_rfl) ?_
   repeat' (first | refine go ?_ | refine mv ?_ | (refine I.ld ?_; first | refine ld rfl ?_ | refine lA rfl ?_) | refine asg ?_ | (refine I.fa ?_; refine fa ?_) | (refine I.nc ?_; refine nc ?_) | (refine I.bin ?_; refine ad ?_) | refine mN ?_ | refine mU ?_ | (refine I.ix ?_; refine iP ?_) | (refine I.st ?_; first | refine st rfl rfl ?_ | refine sG rfl rfl ?_) | refine bd ?_ | fail)
   refine D.flat (H' := [CfBk b (Ch.cfg ⟨ep + 1, [a, a2, a3, m], none⟩), R]) rfl ?_
   exact D.fin1 [CfBk b (Ch.cfg ⟨ep + 1, [a, a2, a3, m], none⟩)] _ rfl rfl ⟨_, rfl, rfl, fun c' h => by cases h; rfl⟩
end Go.Proofs.YtfcefidmdijjkaaGreat

namespace Go.Proofs.YtfcefidmdijjkaaGreat
open Go Go.Sl
theorem up_ms {c : Ch} (ok : ChOk c) : (c.ms.map (·.nd)).Pairwise (· ≠ ·) := List.Pairwise.sublist ((List.sublist_append_left c.ms c.ln.toList).map (·.nd)) ok.up
theorem at_node {ms : List Mem} {k : Int} (hu : (ms.map (·.nd)).Pairwise (· ≠ ·)) {pre post : List Mem} {p : Mem} (e : ms = pre ++ p :: post) (hk : p.nd = k) :
  plc ms k = (pre.length : Int) ∧ ms.filter (fun m => m.nd != k) = pre ++ post := by
 subst e
 rw [List.map_append, List.map_cons, List.pairwise_append, List.pairwise_cons] at hu
 obtain ⟨_, ⟨h1, _⟩, h2⟩ := hu
 have hpre : ∀ x ∈ pre, x.nd ≠ k := fun x hx => by rw [← hk]; exact h2 x.nd (List.mem_map.2 ⟨x, hx, rfl⟩) p.nd (List.mem_cons_self ..)
 have hpost : ∀ x ∈ post, x.nd ≠ k := fun x hx => by rw [← hk]; exact fun h => h1 x.nd (List.mem_map.2 ⟨x, hx, rfl⟩) h.symm
 constructor
 ·refine plc_some (p := p) (by rw [List.getElem?_append_right (Nat.le_refl _), Nat.sub_self]; rfl) hk fun i q hi hq => ?_
  rw [List.getElem?_append_left hi] at hq
  exact hpre q (List.mem_of_getElem? hq)
 ·rw [List.filter_append, List.filter_cons, if_neg (by simp [hk]), List.filter_eq_self.2 (fun x hx => by simpa using hpre x hx), List.filter_eq_self.2 (fun x hx => by simpa using hpost x hx)]
theorem shapes {pre post : List Mem} (h : pre.length + (post.length + 1) ≤ 4) (h1 : ¬ pre.length + (post.length + 1) = 1) :
  (pre = [] ∧ ∃ x, post = [x]) ∨ (pre = [] ∧ ∃ x y, post = [x, y]) ∨ (pre = [] ∧ ∃ x y z, post = [x, y, z]) ∨ (∃ x, pre = [x] ∧ post = []) ∨ (∃ x y, pre = [x] ∧ post = [y]) ∨ (∃ x y z, pre = [x] ∧ post = [y, z]) ∨
  (∃ x y, pre = [x, y] ∧ post = []) ∨ (∃ x y z, pre = [x, y] ∧ post = [z]) ∨ (∃ x y z, pre = [x, y, z] ∧ post = []) := by
 rcases pre with _ | ⟨a, _ | ⟨b, _ | ⟨c, _ | ⟨d, t⟩⟩⟩⟩ <;> rcases post with _ | ⟨e, _ | ⟨f, _ | ⟨g, _ | ⟨i, u⟩⟩⟩⟩ <;> first | (exfalso; simp at h h1; done) | (exfalso; simp at h h1; omega) | (exfalso; simp at h; omega) | simp
def Cfg.wn (c : Cfg) (n : Int) : Cfg := ⟨c.ep, n, c.f0, c.f1, c.f2, c.f3, c.jo, c.le⟩
set_option maxHeartbeats 1000000 in
theorem dropF_ct {c : Ch} (ok : ChOk c) (he : c.ep ≠ 1099511627776) (b nb : Nat) (k : Int) :
  Ct Tryz.prog 95 [.pointer (some ⟨b, 0, none⟩), .pointer (some ⟨nb, 0, none⟩)] [CfBk b c.on.cfg, NBk nb k]
   (fun r H' => ∃ c2, r = .bool (dropL c k).isSome ∧ H' = [CfBk b c2, NBk nb k] ∧ ∀ c', dropL c k = some c' → c2 = c'.cfg) := by
 have h4 := up_l4 ok
 have h1 := ok.l1
 have hup := up_ms ok
 have hrs := cfg_rs (c := c.on) h4 b
 have hix := idxWo_ct hrs nb k (by show c.ms.length ≤ 1000000; omega)
 refine Ct.mk' Tryz.func95 rfl rfl rfl (fun g R => ?_)
 try simp only [List.cons_append]
 simp only [List.nil_append]
 cases hl : c.ln with
 | some m =>
  have hj : c.on.cfg.jo = true := by show c.ln.isSome = true; rw [hl]; rfl
  have hle : c.on.cfg.le.nd = m.nd := by show (c.ln.getD Mem.z).nd = m.nd; rw [hl]; rfl
  by_cases hmk : m.nd = k
  ·have ha : dropL c k = some ⟨c.ep + 1, c.ms, none⟩ := by unfold dropL; rw [if_neg he, if_pos (by rw [hl]; simp [hmk])]
   repeat' (first | refine go ?_ | refine asg ?_ | fail)
   refine W.quiet Tryz.mix (by kernel_rfl) ?_
   repeat' (first | refine mv ?_ | (refine I.ld ?_; refine ld rfl ?_) | (refine I.fa ?_; refine fa ?_) | (refine I.nc ?_; refine nc ?_) | fail)
   rw [hj]
   repeat' (first | refine go ?_ | refine mv ?_ | (refine I.ld ?_; refine ld rfl ?_) | refine asg ?_ | (refine I.gd ?_; refine gy ?_) | (refine I.fa ?_; refine fa ?_) | (refine I.nc ?_; refine nc ?_) | (refine I.bin ?_; refine cm rfl rfl ?_) | (refine I.pk ?_; refine pT ?_) | (refine I.cond ?_; refine cP ?_) | (refine I.st ?_; first | refine st rfl rfl ?_ | refine sG rfl rfl ?_) | refine bd ?_ | fail)
   refine D.flat (H' := [CfBk b (Ch.cfg ⟨c.ep + 1, c.ms, none⟩), NBk nb k, R]) rfl ?_
   rw [ha]
   exact D.fin1 [CfBk b (Ch.cfg ⟨c.ep + 1, c.ms, none⟩), NBk nb k] _ rfl rfl ⟨_, rfl, rfl, fun c' h => by cases h; rfl⟩
  ·have hnl : c.ln.any (fun m => m.nd == k) = false := by rw [hl]; simp [hmk]
   repeat' (first | refine go ?_ | refine asg ?_ | fail)
   refine W.quiet Tryz.mix (by kernel_rfl) ?_
   repeat' (first | refine mv ?_ | (refine I.ld ?_; refine ld rfl ?_) | (refine I.fa ?_; refine fa ?_) | (refine I.nc ?_; refine nc ?_) | fail)
   rw [hj]
   repeat' (first | refine go ?_ | refine mv ?_ | (refine I.ld ?_; refine ld rfl ?_) | (refine I.gd ?_; refine gy ?_) | (refine I.fa ?_; refine fa ?_) | (refine I.nc ?_; refine nc ?_) | (refine I.bin ?_; refine cm rfl rfl ?_) | (refine I.pk ?_; refine pT ?_) | (refine I.cond ?_; refine cN ?_) | fail)
   refine W.quiet Tryz.mix (by kernel_rfl) ?_
   repeat' (first | refine mv ?_ | (refine I.ld ?_; refine ld rfl ?_) | (refine I.fa ?_; refine fa ?_) | (refine I.nc ?_; refine nc ?_) | fail)
   refine WX.arTo (hi := c.ms.length) rfl rfl h4 rfl ?_
   repeat' (first | (refine WX.makeFunc (first := []) rfl rfl rfl ?_) | fail)
   refine WX.callQ rfl hix rfl ?_
   by_cases hh : c.has k = true
   ·obtain ⟨p, hp, hpk⟩ := Ch.has_iff.1 hh
    obtain ⟨pre, post, e⟩ := List.append_of_mem hp
    obtain ⟨g1, g2⟩ := at_node hup e hpk
    have g1 : plc c.on.ms k = (pre.length : Int) := g1
    by_cases hone : c.ms.length = 1
    ·have ha : dropL c k = none := by unfold dropL; rw [if_neg he, if_neg (by rw [hnl]; decide), if_pos (.inr hone)]
     have hnn : c.on.cfg.n = 1 := by show (c.ms.length : Int) = 1; omega
     rw [g1]
     repeat' (first | refine go ?_ | refine mv ?_ | (refine I.ld ?_; refine ld rfl ?_) | refine asg ?_ | (refine I.gd ?_; refine gy ?_) | (refine I.fa ?_; refine fa ?_) | (refine I.nc ?_; refine nc ?_) | (refine I.bin ?_; refine cm rfl rfl ?_) | (refine I.pk ?_; refine pF ?_) | (refine I.cond ?_; refine cP ?_) | fail)
     rw [ha]
     exact D.fin1 [CfBk b c.on.cfg, NBk nb k] _ rfl rfl ⟨_, rfl, rfl, fun c' h => by cases h⟩
    ·have ha : dropL c k = some ⟨c.ep + 1, pre ++ post, c.ln⟩ := by
      unfold dropL
      rw [if_neg he, if_neg (by rw [hnl]; decide), if_neg (fun h => h.elim (fun h => by rw [hh] at h; cases h) hone), g2]
     rw [ha]
     obtain ⟨ep, ms, ln⟩ := c
     simp only [] at e hone h4
     subst e
     rw [List.length_append, List.length_cons] at h4 hone
     rcases shapes h4 hone with ⟨rfl, x, rfl⟩ | ⟨rfl, x, y, rfl⟩ | ⟨rfl, x, y, z, rfl⟩ | ⟨x, rfl, rfl⟩ | ⟨x, y, rfl, rfl⟩ | ⟨x, y, z, rfl, rfl⟩ | ⟨x, y, rfl, rfl⟩ | ⟨x, y, z, rfl, rfl⟩ | ⟨x, y, z, rfl, rfl⟩
     ·have gq : plc (Ch.on ⟨ep, [] ++ p :: [x], ln⟩).ms k = 0 := g1
      have hnn : (Ch.on ⟨ep, [] ++ p :: [x], ln⟩).cfg.n = 2 := rfl
      rw [gq]
      repeat' (first | refine go ?_ | refine mv ?_ | (refine I.ld ?_; refine ld rfl ?_) | refine asg ?_ | (refine I.gd ?_; refine gy ?_) | (refine I.fa ?_; refine fa ?_) | (refine I.nc ?_; refine nc ?_) | (refine I.bin ?_; refine cm rfl rfl ?_) | (refine I.pk ?_; refine pF ?_) | (refine I.cond ?_; refine cF ?_) | fail)
      refine W.mixN 8 (List.replicate 15 true) [CfBk b (Ch.on ⟨ep, [] ++ p :: [x], ln⟩).cfg] Tryz.mix (by kernel_rfl) ?_
      repeat' (first | refine go ?_ | refine mv ?_ | (refine I.fa ?_; refine fa ?_) | (refine I.nc ?_; refine nc ?_) | refine mU ?_ | fail)
      refine WX.arFrom (len := 4) (lo := 0) rfl rfl (by decide) rfl ?_
      repeat' (first | refine go ?_ | refine mv ?_ | (refine I.ld ?_; refine ld rfl ?_) | (refine I.fa ?_; refine fa ?_) | (refine I.nc ?_; refine nc ?_) | (refine I.bin ?_; refine ad ?_) | refine mU ?_ | fail)
      refine WX.arCut (len := 4) (lo := 0 + 1) (hi := 2) rfl rfl rfl (by decide) (by decide) rfl ?_
      repeat' (first | refine go ?_ | refine mN ?_ | fail)
      refine WX.copyIn rfl rfl rfl rfl rfl rfl rfl ?_
      repeat' (first | refine go ?_ | refine mv ?_ | (refine I.ld ?_; refine ld rfl ?_) | (refine I.fa ?_; refine fa ?_) | (refine I.nc ?_; refine nc ?_) | (refine I.bin ?_; refine su ?_) | (refine I.st ?_; refine st rfl rfl ?_) | fail)
      have hn2 : (Cfg.wn (Ch.cfg ⟨ep + 1, [] ++ [x] ++ [x], ln⟩) 1).n = 1 := rfl
      refine W.flat (H' := [CfBk b (Cfg.wn (Ch.cfg ⟨ep + 1, [] ++ [x] ++ [x], ln⟩) 1), NBk nb k, R]) rfl ?_
      refine W.mixN 8 (List.replicate 9 true) [CfBk b (Cfg.wn (Ch.cfg ⟨ep + 1, [] ++ [x] ++ [x], ln⟩) 1)] Tryz.mix (by kernel_rfl) ?_
      repeat' (first | refine go ?_ | refine mv ?_ | (refine I.ld ?_; refine ld rfl ?_) | refine asg ?_ | (refine I.fa ?_; refine fa ?_) | (refine I.nc ?_; refine nc ?_) | refine mN ?_ | refine mU ?_ | (refine I.ix ?_; refine iP ?_) | (refine I.st ?_; refine sG rfl rfl ?_) | refine bd ?_ | fail)
      refine D.flat (H' := [CfBk b (Ch.cfg ⟨ep + 1, [] ++ [x], ln⟩), NBk nb k, R]) rfl ?_
      exact D.fin1 [CfBk b (Ch.cfg ⟨ep + 1, [] ++ [x], ln⟩), NBk nb k] _ rfl rfl ⟨_, rfl, rfl, fun c' h => by cases h; rfl⟩
     ·have gq : plc (Ch.on ⟨ep, [] ++ p :: [x, y], ln⟩).ms k = 0 := g1
      have hnn : (Ch.on ⟨ep, [] ++ p :: [x, y], ln⟩).cfg.n = 3 := rfl
      rw [gq]
      repeat' (first | refine go ?_ | refine mv ?_ | (refine I.ld ?_; refine ld rfl ?_) | refine asg ?_ | (refine I.gd ?_; refine gy ?_) | (refine I.fa ?_; refine fa ?_) | (refine I.nc ?_; refine nc ?_) | (refine I.bin ?_; refine cm rfl rfl ?_) | (refine I.pk ?_; refine pF ?_) | (refine I.cond ?_; refine cF ?_) | fail)
      refine W.mixN 8 (List.replicate 15 true) [CfBk b (Ch.on ⟨ep, [] ++ p :: [x, y], ln⟩).cfg] Tryz.mix (by kernel_rfl) ?_
      repeat' (first | refine go ?_ | refine mv ?_ | (refine I.fa ?_; refine fa ?_) | (refine I.nc ?_; refine nc ?_) | refine mU ?_ | fail)
      refine WX.arFrom (len := 4) (lo := 0) rfl rfl (by decide) rfl ?_
      repeat' (first | refine go ?_ | refine mv ?_ | (refine I.ld ?_; refine ld rfl ?_) | (refine I.fa ?_; refine fa ?_) | (refine I.nc ?_; refine nc ?_) | (refine I.bin ?_; refine ad ?_) | refine mU ?_ | fail)
      refine WX.arCut (len := 4) (lo := 0 + 1) (hi := 3) rfl rfl rfl (by decide) (by decide) rfl ?_
      repeat' (first | refine go ?_ | refine mN ?_ | fail)
      refine WX.copyIn rfl rfl rfl rfl rfl rfl rfl ?_
      repeat' (first | refine go ?_ | refine mv ?_ | (refine I.ld ?_; refine ld rfl ?_) | (refine I.fa ?_; refine fa ?_) | (refine I.nc ?_; refine nc ?_) | (refine I.bin ?_; refine su ?_) | (refine I.st ?_; refine st rfl rfl ?_) | fail)
      have hn2 : (Cfg.wn (Ch.cfg ⟨ep + 1, [] ++ [x, y] ++ [y], ln⟩) 2).n = 2 := rfl
      refine W.flat (H' := [CfBk b (Cfg.wn (Ch.cfg ⟨ep + 1, [] ++ [x, y] ++ [y], ln⟩) 2), NBk nb k, R]) rfl ?_
      refine W.mixN 8 (List.replicate 9 true) [CfBk b (Cfg.wn (Ch.cfg ⟨ep + 1, [] ++ [x, y] ++ [y], ln⟩) 2)] Tryz.mix (by kernel_rfl) ?_
      repeat' (first | refine go ?_ | refine mv ?_ | (refine I.ld ?_; refine ld rfl ?_) | refine asg ?_ | (refine I.fa ?_; refine fa ?_) | (refine I.nc ?_; refine nc ?_) | refine mN ?_ | refine mU ?_ | (refine I.ix ?_; refine iP ?_) | (refine I.st ?_; refine sG rfl rfl ?_) | refine bd ?_ | fail)
      refine D.flat (H' := [CfBk b (Ch.cfg ⟨ep + 1, [] ++ [x, y], ln⟩), NBk nb k, R]) rfl ?_
      exact D.fin1 [CfBk b (Ch.cfg ⟨ep + 1, [] ++ [x, y], ln⟩), NBk nb k] _ rfl rfl ⟨_, rfl, rfl, fun c' h => by cases h; rfl⟩
     ·have gq : plc (Ch.on ⟨ep, [] ++ p :: [x, y, z], ln⟩).ms k = 0 := g1
      have hnn : (Ch.on ⟨ep, [] ++ p :: [x, y, z], ln⟩).cfg.n = 4 := rfl
      rw [gq]
      repeat' (first | refine go ?_ | refine mv ?_ | (refine I.ld ?_; refine ld rfl ?_) | refine asg ?_ | (refine I.gd ?_; refine gy ?_) | (refine I.fa ?_; refine fa ?_) | (refine I.nc ?_; refine nc ?_) | (refine I.bin ?_; refine cm rfl rfl ?_) | (refine I.pk ?_; refine pF ?_) | (refine I.cond ?_; refine cF ?_) | fail)
      refine W.mixN 8 (List.replicate 15 true) [CfBk b (Ch.on ⟨ep, [] ++ p :: [x, y, z], ln⟩).cfg] Tryz.mix (by kernel_rfl) ?_
      repeat' (first | refine go ?_ | refine mv ?_ | (refine I.fa ?_; refine fa ?_) | (refine I.nc ?_; refine nc ?_) | refine mU ?_ | fail)
      refine WX.arFrom (len := 4) (lo := 0) rfl rfl (by decide) rfl ?_
      repeat' (first | refine go ?_ | refine mv ?_ | (refine I.ld ?_; refine ld rfl ?_) | (refine I.fa ?_; refine fa ?_) | (refine I.nc ?_; refine nc ?_) | (refine I.bin ?_; refine ad ?_) | refine mU ?_ | fail)
      refine WX.arCut (len := 4) (lo := 0 + 1) (hi := 4) rfl rfl rfl (by decide) (by decide) rfl ?_
      repeat' (first | refine go ?_ | refine mN ?_ | fail)
      refine WX.copyIn rfl rfl rfl rfl rfl rfl rfl ?_
      repeat' (first | refine go ?_ | refine mv ?_ | (refine I.ld ?_; refine ld rfl ?_) | (refine I.fa ?_; refine fa ?_) | (refine I.nc ?_; refine nc ?_) | (refine I.bin ?_; refine su ?_) | (refine I.st ?_; refine st rfl rfl ?_) | fail)
      have hn2 : (Cfg.wn (Ch.cfg ⟨ep + 1, [] ++ [x, y, z] ++ [z], ln⟩) 3).n = 3 := rfl
      refine W.flat (H' := [CfBk b (Cfg.wn (Ch.cfg ⟨ep + 1, [] ++ [x, y, z] ++ [z], ln⟩) 3), NBk nb k, R]) rfl ?_
      refine W.mixN 8 (List.replicate 9 true) [CfBk b (Cfg.wn (Ch.cfg ⟨ep + 1, [] ++ [x, y, z] ++ [z], ln⟩) 3)] Tryz.mix (by kernel_rfl) ?_
      repeat' (first | refine go ?_ | refine mv ?_ | (refine I.ld ?_; refine ld rfl ?_) | refine asg ?_ | (refine I.fa ?_; refine fa ?_) | (refine I.nc ?_; refine nc ?_) | refine mN ?_ | refine mU ?_ | (refine I.ix ?_; refine iP ?_) | (refine I.st ?_; refine sG rfl rfl ?_) | refine bd ?_ | fail)
      refine D.flat (H' := [CfBk b (Ch.cfg ⟨ep + 1, [] ++ [x, y, z], ln⟩), NBk nb k, R]) rfl ?_
      exact D.fin1 [CfBk b (Ch.cfg ⟨ep + 1, [] ++ [x, y, z], ln⟩), NBk nb k] _ rfl rfl ⟨_, rfl, rfl, fun c' h => by cases h; rfl⟩
     ·have gq : plc (Ch.on ⟨ep, [x] ++ p :: [], ln⟩).ms k = 1 := g1
      have hnn : (Ch.on ⟨ep, [x] ++ p :: [], ln⟩).cfg.n = 2 := rfl
      rw [gq]
      repeat' (first | refine go ?_ | refine mv ?_ | (refine I.ld ?_; refine ld rfl ?_) | refine asg ?_ | (refine I.gd ?_; refine gy ?_) | (refine I.fa ?_; refine fa ?_) | (refine I.nc ?_; refine nc ?_) | (refine I.bin ?_; refine cm rfl rfl ?_) | (refine I.pk ?_; refine pF ?_) | (refine I.cond ?_; refine cF ?_) | fail)
      refine W.mixN 8 (List.replicate 15 true) [CfBk b (Ch.on ⟨ep, [x] ++ p :: [], ln⟩).cfg] Tryz.mix (by kernel_rfl) ?_
      repeat' (first | refine go ?_ | refine mv ?_ | (refine I.fa ?_; refine fa ?_) | (refine I.nc ?_; refine nc ?_) | refine mU ?_ | fail)
      refine WX.arFrom (len := 4) (lo := 1) rfl rfl (by decide) rfl ?_
      repeat' (first | refine go ?_ | refine mv ?_ | (refine I.ld ?_; refine ld rfl ?_) | (refine I.fa ?_; refine fa ?_) | (refine I.nc ?_; refine nc ?_) | (refine I.bin ?_; refine ad ?_) | refine mU ?_ | fail)
      refine WX.arCut (len := 4) (lo := 1 + 1) (hi := 2) rfl rfl rfl (by decide) (by decide) rfl ?_
      repeat' (first | refine go ?_ | refine mN ?_ | fail)
      refine WX.copyIn rfl rfl rfl rfl rfl rfl rfl ?_
      repeat' (first | refine go ?_ | refine mv ?_ | (refine I.ld ?_; refine ld rfl ?_) | (refine I.fa ?_; refine fa ?_) | (refine I.nc ?_; refine nc ?_) | (refine I.bin ?_; refine su ?_) | (refine I.st ?_; refine st rfl rfl ?_) | fail)
      have hn2 : (Cfg.wn (Ch.cfg ⟨ep + 1, [x] ++ [] ++ [p], ln⟩) 1).n = 1 := rfl
      refine W.flat (H' := [CfBk b (Cfg.wn (Ch.cfg ⟨ep + 1, [x] ++ [] ++ [p], ln⟩) 1), NBk nb k, R]) rfl ?_
      refine W.mixN 8 (List.replicate 9 true) [CfBk b (Cfg.wn (Ch.cfg ⟨ep + 1, [x] ++ [] ++ [p], ln⟩) 1)] Tryz.mix (by kernel_rfl) ?_
      repeat' (first | refine go ?_ | refine mv ?_ | (refine I.ld ?_; refine ld rfl ?_) | refine asg ?_ | (refine I.fa ?_; refine fa ?_) | (refine I.nc ?_; refine nc ?_) | refine mN ?_ | refine mU ?_ | (refine I.ix ?_; refine iP ?_) | (refine I.st ?_; refine sG rfl rfl ?_) | refine bd ?_ | fail)
      refine D.flat (H' := [CfBk b (Ch.cfg ⟨ep + 1, [x] ++ [], ln⟩), NBk nb k, R]) rfl ?_
      exact D.fin1 [CfBk b (Ch.cfg ⟨ep + 1, [x] ++ [], ln⟩), NBk nb k] _ rfl rfl ⟨_, rfl, rfl, fun c' h => by cases h; rfl⟩
     ·have gq : plc (Ch.on ⟨ep, [x] ++ p :: [y], ln⟩).ms k = 1 := g1
      have hnn : (Ch.on ⟨ep, [x] ++ p :: [y], ln⟩).cfg.n = 3 := rfl
      rw [gq]
      repeat' (first | refine go ?_ | refine mv ?_ | (refine I.ld ?_; refine ld rfl ?_) | refine asg ?_ | (refine I.gd ?_; refine gy ?_) | (refine I.fa ?_; refine fa ?_) | (refine I.nc ?_; refine nc ?_) | (refine I.bin ?_; refine cm rfl rfl ?_) | (refine I.pk ?_; refine pF ?_) | (refine I.cond ?_; refine cF ?_) | fail)
      refine W.mixN 8 (List.replicate 15 true) [CfBk b (Ch.on ⟨ep, [x] ++ p :: [y], ln⟩).cfg] Tryz.mix (by kernel_rfl) ?_
      repeat' (first | refine go ?_ | refine mv ?_ | (refine I.fa ?_; refine fa ?_) | (refine I.nc ?_; refine nc ?_) | refine mU ?_ | fail)
      refine WX.arFrom (len := 4) (lo := 1) rfl rfl (by decide) rfl ?_
      repeat' (first | refine go ?_ | refine mv ?_ | (refine I.ld ?_; refine ld rfl ?_) | (refine I.fa ?_; refine fa ?_) | (refine I.nc ?_; refine nc ?_) | (refine I.bin ?_; refine ad ?_) | refine mU ?_ | fail)
      refine WX.arCut (len := 4) (lo := 1 + 1) (hi := 3) rfl rfl rfl (by decide) (by decide) rfl ?_
      repeat' (first | refine go ?_ | refine mN ?_ | fail)
      refine WX.copyIn rfl rfl rfl rfl rfl rfl rfl ?_
      repeat' (first | refine go ?_ | refine mv ?_ | (refine I.ld ?_; refine ld rfl ?_) | (refine I.fa ?_; refine fa ?_) | (refine I.nc ?_; refine nc ?_) | (refine I.bin ?_; refine su ?_) | (refine I.st ?_; refine st rfl rfl ?_) | fail)
      have hn2 : (Cfg.wn (Ch.cfg ⟨ep + 1, [x] ++ [y] ++ [y], ln⟩) 2).n = 2 := rfl
      refine W.flat (H' := [CfBk b (Cfg.wn (Ch.cfg ⟨ep + 1, [x] ++ [y] ++ [y], ln⟩) 2), NBk nb k, R]) rfl ?_
      refine W.mixN 8 (List.replicate 9 true) [CfBk b (Cfg.wn (Ch.cfg ⟨ep + 1, [x] ++ [y] ++ [y], ln⟩) 2)] Tryz.mix (by kernel_rfl) ?_
      repeat' (first | refine go ?_ | refine mv ?_ | (refine I.ld ?_; refine ld rfl ?_) | refine asg ?_ | (refine I.fa ?_; refine fa ?_) | (refine I.nc ?_; refine nc ?_) | refine mN ?_ | refine mU ?_ | (refine I.ix ?_; refine iP ?_) | (refine I.st ?_; refine sG rfl rfl ?_) | refine bd ?_ | fail)
      refine D.flat (H' := [CfBk b (Ch.cfg ⟨ep + 1, [x] ++ [y], ln⟩), NBk nb k, R]) rfl ?_
      exact D.fin1 [CfBk b (Ch.cfg ⟨ep + 1, [x] ++ [y], ln⟩), NBk nb k] _ rfl rfl ⟨_, rfl, rfl, fun c' h => by cases h; rfl⟩
     ·have gq : plc (Ch.on ⟨ep, [x] ++ p :: [y, z], ln⟩).ms k = 1 := g1
      have hnn : (Ch.on ⟨ep, [x] ++ p :: [y, z], ln⟩).cfg.n = 4 := rfl
      rw [gq]
      repeat' (first | refine go ?_ | refine mv ?_ | (refine I.ld ?_; refine ld rfl ?_) | refine asg ?_ | (refine I.gd ?_; refine gy ?_) | (refine I.fa ?_; refine fa ?_) | (refine I.nc ?_; refine nc ?_) | (refine I.bin ?_; refine cm rfl rfl ?_) | (refine I.pk ?_; refine pF ?_) | (refine I.cond ?_; refine cF ?_) | fail)
      refine W.mixN 8 (List.replicate 15 true) [CfBk b (Ch.on ⟨ep, [x] ++ p :: [y, z], ln⟩).cfg] Tryz.mix (by kernel_rfl) ?_
      repeat' (first | refine go ?_ | refine mv ?_ | (refine I.fa ?_; refine fa ?_) | (refine I.nc ?_; refine nc ?_) | refine mU ?_ | fail)
      refine WX.arFrom (len := 4) (lo := 1) rfl rfl (by decide) rfl ?_
      repeat' (first | refine go ?_ | refine mv ?_ | (refine I.ld ?_; refine ld rfl ?_) | (refine I.fa ?_; refine fa ?_) | (refine I.nc ?_; refine nc ?_) | (refine I.bin ?_; refine ad ?_) | refine mU ?_ | fail)
      refine WX.arCut (len := 4) (lo := 1 + 1) (hi := 4) rfl rfl rfl (by decide) (by decide) rfl ?_
      repeat' (first | refine go ?_ | refine mN ?_ | fail)
      refine WX.copyIn rfl rfl rfl rfl rfl rfl rfl ?_
      repeat' (first | refine go ?_ | refine mv ?_ | (refine I.ld ?_; refine ld rfl ?_) | (refine I.fa ?_; refine fa ?_) | (refine I.nc ?_; refine nc ?_) | (refine I.bin ?_; refine su ?_) | (refine I.st ?_; refine st rfl rfl ?_) | fail)
      have hn2 : (Cfg.wn (Ch.cfg ⟨ep + 1, [x] ++ [y, z] ++ [z], ln⟩) 3).n = 3 := rfl
      refine W.flat (H' := [CfBk b (Cfg.wn (Ch.cfg ⟨ep + 1, [x] ++ [y, z] ++ [z], ln⟩) 3), NBk nb k, R]) rfl ?_
      refine W.mixN 8 (List.replicate 9 true) [CfBk b (Cfg.wn (Ch.cfg ⟨ep + 1, [x] ++ [y, z] ++ [z], ln⟩) 3)] Tryz.mix (by kernel_rfl) ?_
      repeat' (first | refine go ?_ | refine mv ?_ | (refine I.ld ?_; refine ld rfl ?_) | refine asg ?_ | (refine I.fa ?_; refine fa ?_) | (refine I.nc ?_; refine nc ?_) | refine mN ?_ | refine mU ?_ | (refine I.ix ?_; refine iP ?_) | (refine I.st ?_; refine sG rfl rfl ?_) | refine bd ?_ | fail)
      refine D.flat (H' := [CfBk b (Ch.cfg ⟨ep + 1, [x] ++ [y, z], ln⟩), NBk nb k, R]) rfl ?_
      exact D.fin1 [CfBk b (Ch.cfg ⟨ep + 1, [x] ++ [y, z], ln⟩), NBk nb k] _ rfl rfl ⟨_, rfl, rfl, fun c' h => by cases h; rfl⟩
     ·have gq : plc (Ch.on ⟨ep, [x, y] ++ p :: [], ln⟩).ms k = 2 := g1
      have hnn : (Ch.on ⟨ep, [x, y] ++ p :: [], ln⟩).cfg.n = 3 := rfl
      rw [gq]
      repeat' (first | refine go ?_ | refine mv ?_ | (refine I.ld ?_; refine ld rfl ?_) | refine asg ?_ | (refine I.gd ?_; refine gy ?_) | (refine I.fa ?_; refine fa ?_) | (refine I.nc ?_; refine nc ?_) | (refine I.bin ?_; refine cm rfl rfl ?_) | (refine I.pk ?_; refine pF ?_) | (refine I.cond ?_; refine cF ?_) | fail)
      refine W.mixN 8 (List.replicate 15 true) [CfBk b (Ch.on ⟨ep, [x, y] ++ p :: [], ln⟩).cfg] Tryz.mix (by kernel_rfl) ?_
      repeat' (first | refine go ?_ | refine mv ?_ | (refine I.fa ?_; refine fa ?_) | (refine I.nc ?_; refine nc ?_) | refine mU ?_ | fail)
      refine WX.arFrom (len := 4) (lo := 2) rfl rfl (by decide) rfl ?_
      repeat' (first | refine go ?_ | refine mv ?_ | (refine I.ld ?_; refine ld rfl ?_) | (refine I.fa ?_; refine fa ?_) | (refine I.nc ?_; refine nc ?_) | (refine I.bin ?_; refine ad ?_) | refine mU ?_ | fail)
      refine WX.arCut (len := 4) (lo := 2 + 1) (hi := 3) rfl rfl rfl (by decide) (by decide) rfl ?_
      repeat' (first | refine go ?_ | refine mN ?_ | fail)
      refine WX.copyIn rfl rfl rfl rfl rfl rfl rfl ?_
      repeat' (first | refine go ?_ | refine mv ?_ | (refine I.ld ?_; refine ld rfl ?_) | (refine I.fa ?_; refine fa ?_) | (refine I.nc ?_; refine nc ?_) | (refine I.bin ?_; refine su ?_) | (refine I.st ?_; refine st rfl rfl ?_) | fail)
      have hn2 : (Cfg.wn (Ch.cfg ⟨ep + 1, [x, y] ++ [] ++ [p], ln⟩) 2).n = 2 := rfl
      refine W.flat (H' := [CfBk b (Cfg.wn (Ch.cfg ⟨ep + 1, [x, y] ++ [] ++ [p], ln⟩) 2), NBk nb k, R]) rfl ?_
      refine W.mixN 8 (List.replicate 9 true) [CfBk b (Cfg.wn (Ch.cfg ⟨ep + 1, [x, y] ++ [] ++ [p], ln⟩) 2)] Tryz.mix (by kernel_rfl) ?_
      repeat' (first | refine go ?_ | refine mv ?_ | (refine I.ld ?_; refine ld rfl ?_) | refine asg ?_ | (refine I.fa ?_; refine fa ?_) | (refine I.nc ?_; refine nc ?_) | refine mN ?_ | refine mU ?_ | (refine I.ix ?_; refine iP ?_) | (refine I.st ?_; refine sG rfl rfl ?_) | refine bd ?_ | fail)
      refine D.flat (H' := [CfBk b (Ch.cfg ⟨ep + 1, [x, y] ++ [], ln⟩), NBk nb k, R]) rfl ?_
      exact D.fin1 [CfBk b (Ch.cfg ⟨ep + 1, [x, y] ++ [], ln⟩), NBk nb k] _ rfl rfl ⟨_, rfl, rfl, fun c' h => by cases h; rfl⟩
     ·have gq : plc (Ch.on ⟨ep, [x, y] ++ p :: [z], ln⟩).ms k = 2 := g1
      have hnn : (Ch.on ⟨ep, [x, y] ++ p :: [z], ln⟩).cfg.n = 4 := rfl
      rw [gq]
      repeat' (first | refine go ?_ | refine mv ?_ | (refine I.ld ?_; refine ld rfl ?_) | refine asg ?_ | (refine I.gd ?_; refine gy ?_) | (refine I.fa ?_; refine fa ?_) | (refine I.nc ?_; refine nc ?_) | (refine I.bin ?_; refine cm rfl rfl ?_) | (refine I.pk ?_; refine pF ?_) | (refine I.cond ?_; refine cF ?_) | fail)
      refine W.mixN 8 (List.replicate 15 true) [CfBk b (Ch.on ⟨ep, [x, y] ++ p :: [z], ln⟩).cfg] Tryz.mix (by kernel_rfl) ?_
      repeat' (first | refine go ?_ | refine mv ?_ | (refine I.fa ?_; refine fa ?_) | (refine I.nc ?_; refine nc ?_) | refine mU ?_ | fail)
      refine WX.arFrom (len := 4) (lo := 2) rfl rfl (by decide) rfl ?_
      repeat' (first | refine go ?_ | refine mv ?_ | (refine I.ld ?_; refine ld rfl ?_) | (refine I.fa ?_; refine fa ?_) | (refine I.nc ?_; refine nc ?_) | (refine I.bin ?_; refine ad ?_) | refine mU ?_ | fail)
      refine WX.arCut (len := 4) (lo := 2 + 1) (hi := 4) rfl rfl rfl (by decide) (by decide) rfl ?_
      repeat' (first | refine go ?_ | refine mN ?_ | fail)
      refine WX.copyIn rfl rfl rfl rfl rfl rfl rfl ?_
      repeat' (first | refine go ?_ | refine mv ?_ | (refine I.ld ?_; refine ld rfl ?_) | (refine I.fa ?_; refine fa ?_) | (refine I.nc ?_; refine nc ?_) | (refine I.bin ?_; refine su ?_) | (refine I.st ?_; refine st rfl rfl ?_) | fail)
      have hn2 : (Cfg.wn (Ch.cfg ⟨ep + 1, [x, y] ++ [z] ++ [z], ln⟩) 3).n = 3 := rfl
      refine W.flat (H' := [CfBk b (Cfg.wn (Ch.cfg ⟨ep + 1, [x, y] ++ [z] ++ [z], ln⟩) 3), NBk nb k, R]) rfl ?_
      refine W.mixN 8 (List.replicate 9 true) [CfBk b (Cfg.wn (Ch.cfg ⟨ep + 1, [x, y] ++ [z] ++ [z], ln⟩) 3)] Tryz.mix (by kernel_rfl) ?_
      repeat' (first | refine go ?_ | refine mv ?_ | (refine I.ld ?_; refine ld rfl ?_) | refine asg ?_ | (refine I.fa ?_; refine fa ?_) | (refine I.nc ?_; refine nc ?_) | refine mN ?_ | refine mU ?_ | (refine I.ix ?_; refine iP ?_) | (refine I.st ?_; refine sG rfl rfl ?_) | refine bd ?_ | fail)
      refine D.flat (H' := [CfBk b (Ch.cfg ⟨ep + 1, [x, y] ++ [z], ln⟩), NBk nb k, R]) rfl ?_
      exact D.fin1 [CfBk b (Ch.cfg ⟨ep + 1, [x, y] ++ [z], ln⟩), NBk nb k] _ rfl rfl ⟨_, rfl, rfl, fun c' h => by cases h; rfl⟩
     ·have gq : plc (Ch.on ⟨ep, [x, y, z] ++ p :: [], ln⟩).ms k = 3 := g1
      have hnn : (Ch.on ⟨ep, [x, y, z] ++ p :: [], ln⟩).cfg.n = 4 := rfl
      rw [gq]
      repeat' (first | refine go ?_ | refine mv ?_ | (refine I.ld ?_; refine ld rfl ?_) | refine asg ?_ | (refine I.gd ?_; refine gy ?_) | (refine I.fa ?_; refine fa ?_) | (refine I.nc ?_; refine nc ?_) | (refine I.bin ?_; refine cm rfl rfl ?_) | (refine I.pk ?_; refine pF ?_) | (refine I.cond ?_; refine cF ?_) | fail)
      refine W.mixN 8 (List.replicate 15 true) [CfBk b (Ch.on ⟨ep, [x, y, z] ++ p :: [], ln⟩).cfg] Tryz.mix (by kernel_rfl) ?_
      repeat' (first | refine go ?_ | refine mv ?_ | (refine I.fa ?_; refine fa ?_) | (refine I.nc ?_; refine nc ?_) | refine mU ?_ | fail)
      refine WX.arFrom (len := 4) (lo := 3) rfl rfl (by decide) rfl ?_
      repeat' (first | refine go ?_ | refine mv ?_ | (refine I.ld ?_; refine ld rfl ?_) | (refine I.fa ?_; refine fa ?_) | (refine I.nc ?_; refine nc ?_) | (refine I.bin ?_; refine ad ?_) | refine mU ?_ | fail)
      refine WX.arCut (len := 4) (lo := 3 + 1) (hi := 4) rfl rfl rfl (by decide) (by decide) rfl ?_
      repeat' (first | refine go ?_ | refine mN ?_ | fail)
      refine WX.copyIn rfl rfl rfl rfl rfl rfl rfl ?_
      repeat' (first | refine go ?_ | refine mv ?_ | (refine I.ld ?_; refine ld rfl ?_) | (refine I.fa ?_; refine fa ?_) | (refine I.nc ?_; refine nc ?_) | (refine I.bin ?_; refine su ?_) | (refine I.st ?_; refine st rfl rfl ?_) | fail)
      have hn2 : (Cfg.wn (Ch.cfg ⟨ep + 1, [x, y, z] ++ [] ++ [p], ln⟩) 3).n = 3 := rfl
      refine W.flat (H' := [CfBk b (Cfg.wn (Ch.cfg ⟨ep + 1, [x, y, z] ++ [] ++ [p], ln⟩) 3), NBk nb k, R]) rfl ?_
      refine W.mixN 8 (List.replicate 9 true) [CfBk b (Cfg.wn (Ch.cfg ⟨ep + 1, [x, y, z] ++ [] ++ [p], ln⟩) 3)] Tryz.mix (by kernel_rfl) ?_
      repeat' (first | refine go ?_ | refine mv ?_ | (refine I.ld ?_; refine ld rfl ?_) | refine asg ?_ | (refine I.fa ?_; refine fa ?_) | (refine I.nc ?_; refine nc ?_) | refine mN ?_ | refine mU ?_ | (refine I.ix ?_; refine iP ?_) | (refine I.st ?_; refine sG rfl rfl ?_) | refine bd ?_ | fail)
      refine D.flat (H' := [CfBk b (Ch.cfg ⟨ep + 1, [x, y, z] ++ [], ln⟩), NBk nb k, R]) rfl ?_
      exact D.fin1 [CfBk b (Ch.cfg ⟨ep + 1, [x, y, z] ++ [], ln⟩), NBk nb k] _ rfl rfl ⟨_, rfl, rfl, fun c' h => by cases h; rfl⟩
   ·have hno : c.has k = false := by cases h : c.has k with | false => rfl | true => exact absurd h hh
    have ha : dropL c k = none := by unfold dropL; rw [if_neg he, if_neg (by rw [hnl]; decide), if_pos (.inl hno)]
    have g1 : plc c.on.ms k = -1 := plc_none fun q hq h => hh (Ch.has_iff.2 ⟨q, hq, h⟩)
    rw [g1]
    repeat' (first | refine go ?_ | refine mv ?_ | refine asg ?_ | (refine I.gd ?_; refine gn ?_) | (refine I.bin ?_; refine cm rfl rfl ?_) | (refine I.pk ?_; refine pT ?_) | (refine I.cond ?_; refine cT ?_) | fail)
    rw [ha]
    exact D.fin1 [CfBk b c.on.cfg, NBk nb k] _ rfl rfl ⟨_, rfl, rfl, fun c' h => by cases h⟩
 | none =>
  have hj : c.on.cfg.jo = false := by show c.ln.isSome = false; rw [hl]; rfl
  have hnl : c.ln.any (fun m => m.nd == k) = false := by rw [hl]; rfl
  repeat' (first | refine go ?_ | refine asg ?_ | fail)
  refine W.quiet Tryz.mix (by kernel_rfl) ?_
  repeat' (first | refine mv ?_ | (refine I.ld ?_; refine ld rfl ?_) | (refine I.fa ?_; refine fa ?_) | (refine I.nc ?_; refine nc ?_) | fail)
  rw [hj]
  repeat' (first | refine go ?_ | (refine I.gd ?_; refine gn ?_) | (refine I.pk ?_; refine pF ?_) | (refine I.cond ?_; refine cF ?_) | fail)
  refine W.quiet Tryz.mix (by kernel_rfl) ?_
  repeat' (first | refine mv ?_ | (refine I.ld ?_; refine ld rfl ?_) | (refine I.fa ?_; refine fa ?_) | (refine I.nc ?_; refine nc ?_) | fail)
  refine WX.arTo (hi := c.ms.length) rfl rfl h4 rfl ?_
  repeat' (first | (refine WX.makeFunc (first := []) rfl rfl rfl ?_) | fail)
  refine WX.callQ rfl hix rfl ?_
  by_cases hh : c.has k = true
  ·obtain ⟨p, hp, hpk⟩ := Ch.has_iff.1 hh
   obtain ⟨pre, post, e⟩ := List.append_of_mem hp
   obtain ⟨g1, g2⟩ := at_node hup e hpk
   have g1 : plc c.on.ms k = (pre.length : Int) := g1
   by_cases hone : c.ms.length = 1
   ·have ha : dropL c k = none := by unfold dropL; rw [if_neg he, if_neg (by rw [hnl]; decide), if_pos (.inr hone)]
    have hnn : c.on.cfg.n = 1 := by show (c.ms.length : Int) = 1; omega
    rw [g1]
    repeat' (first | refine go ?_ | refine mv ?_ | (refine I.ld ?_; refine ld rfl ?_) | refine asg ?_ | (refine I.gd ?_; refine gy ?_) | (refine I.fa ?_; refine fa ?_) | (refine I.nc ?_; refine nc ?_) | (refine I.bin ?_; refine cm rfl rfl ?_) | (refine I.pk ?_; refine pF ?_) | (refine I.cond ?_; refine cP ?_) | fail)
    rw [ha]
    exact D.fin1 [CfBk b c.on.cfg, NBk nb k] _ rfl rfl ⟨_, rfl, rfl, fun c' h => by cases h⟩
   ·have ha : dropL c k = some ⟨c.ep + 1, pre ++ post, c.ln⟩ := by
     unfold dropL
     rw [if_neg he, if_neg (by rw [hnl]; decide), if_neg (fun h => h.elim (fun h => by rw [hh] at h; cases h) hone), g2]
    rw [ha]
    obtain ⟨ep, ms, ln⟩ := c
    simp only [] at e hone h4
    subst e
    rw [List.length_append, List.length_cons] at h4 hone
    rcases shapes h4 hone with ⟨rfl, x, rfl⟩ | ⟨rfl, x, y, rfl⟩ | ⟨rfl, x, y, z, rfl⟩ | ⟨x, rfl, rfl⟩ | ⟨x, y, rfl, rfl⟩ | ⟨x, y, z, rfl, rfl⟩ | ⟨x, y, rfl, rfl⟩ | ⟨x, y, z, rfl, rfl⟩ | ⟨x, y, z, rfl, rfl⟩
    ·have gq : plc (Ch.on ⟨ep, [] ++ p :: [x], ln⟩).ms k = 0 := g1
     have hnn : (Ch.on ⟨ep, [] ++ p :: [x], ln⟩).cfg.n = 2 := rfl
     rw [gq]
     repeat' (first | refine go ?_ | refine mv ?_ | (refine I.ld ?_; refine ld rfl ?_) | refine asg ?_ | (refine I.gd ?_; refine gy ?_) | (refine I.fa ?_; refine fa ?_) | (refine I.nc ?_; refine nc ?_) | (refine I.bin ?_; refine cm rfl rfl ?_) | (refine I.pk ?_; refine pF ?_) | (refine I.cond ?_; refine cF ?_) | fail)
     refine W.mixN 8 (List.replicate 15 true) [CfBk b (Ch.on ⟨ep, [] ++ p :: [x], ln⟩).cfg] Tryz.mix (by kernel_rfl) ?_
     repeat' (first | refine go ?_ | refine mv ?_ | (refine I.fa ?_; refine fa ?_) | (refine I.nc ?_; refine nc ?_) | refine mU ?_ | fail)
     refine WX.arFrom (len := 4) (lo := 0) rfl rfl (by decide) rfl ?_
     repeat' (first | refine go ?_ | refine mv ?_ | (refine I.ld ?_; refine ld rfl ?_) | (refine I.fa ?_; refine fa ?_) | (refine I.nc ?_; refine nc ?_) | (refine I.bin ?_; refine ad ?_) | refine mU ?_ | fail)
     refine WX.arCut (len := 4) (lo := 0 + 1) (hi := 2) rfl rfl rfl (by decide) (by decide) rfl ?_
     repeat' (first | refine go ?_ | refine mN ?_ | fail)
     refine WX.copyIn rfl rfl rfl rfl rfl rfl rfl ?_
     repeat' (first | refine go ?_ | refine mv ?_ | (refine I.ld ?_; refine ld rfl ?_) | (refine I.fa ?_; refine fa ?_) | (refine I.nc ?_; refine nc ?_) | (refine I.bin ?_; refine su ?_) | (refine I.st ?_; refine st rfl rfl ?_) | fail)
     have hn2 : (Cfg.wn (Ch.cfg ⟨ep + 1, [] ++ [x] ++ [x], ln⟩) 1).n = 1 := rfl
     refine W.flat (H' := [CfBk b (Cfg.wn (Ch.cfg ⟨ep + 1, [] ++ [x] ++ [x], ln⟩) 1), NBk nb k, R]) rfl ?_
     refine W.mixN 8 (List.replicate 9 true) [CfBk b (Cfg.wn (Ch.cfg ⟨ep + 1, [] ++ [x] ++ [x], ln⟩) 1)] Tryz.mix (by kernel_rfl) ?_
     repeat' (first | refine go ?_ | refine mv ?_ | (refine I.ld ?_; refine ld rfl ?_) | refine asg ?_ | (refine I.fa ?_; refine fa ?_) | (refine I.nc ?_; refine nc ?_) | refine mN ?_ | refine mU ?_ | (refine I.ix ?_; refine iP ?_) | (refine I.st ?_; refine sG rfl rfl ?_) | refine bd ?_ | fail)
     refine D.flat (H' := [CfBk b (Ch.cfg ⟨ep + 1, [] ++ [x], ln⟩), NBk nb k, R]) rfl ?_
     exact D.fin1 [CfBk b (Ch.cfg ⟨ep + 1, [] ++ [x], ln⟩), NBk nb k] _ rfl rfl ⟨_, rfl, rfl, fun c' h => by cases h; rfl⟩
    ·have gq : plc (Ch.on ⟨ep, [] ++ p :: [x, y], ln⟩).ms k = 0 := g1
     have hnn : (Ch.on ⟨ep, [] ++ p :: [x, y], ln⟩).cfg.n = 3 := rfl
     rw [gq]
     repeat' (first | refine go ?_ | refine mv ?_ | (refine I.ld ?_; refine ld rfl ?_) | refine asg ?_ | (refine I.gd ?_; refine gy ?_) | (refine I.fa ?_; refine fa ?_) | (refine I.nc ?_; refine nc ?_) | (refine I.bin ?_; refine cm rfl rfl ?_) | (refine I.pk ?_; refine pF ?_) | (refine I.cond ?_; refine cF ?_) | fail)
     refine W.mixN 8 (List.replicate 15 true) [CfBk b (Ch.on ⟨ep, [] ++ p :: [x, y], ln⟩).cfg] Tryz.mix (by kernel_rfl) ?_
     repeat' (first | refine go ?_ | refine mv ?_ | (refine I.fa ?_; refine fa ?_) | (refine I.nc ?_; refine nc ?_) | refine mU ?_ | fail)
     refine WX.arFrom (len := 4) (lo := 0) rfl rfl (by decide) rfl ?_
     repeat' (first | refine go ?_ | refine mv ?_ | (refine I.ld ?_; refine ld rfl ?_) | (refine I.fa ?_; refine fa ?_) | (refine I.nc ?_; refine nc ?_) | (refine I.bin ?_; refine ad ?_) | refine mU ?_ | fail)
     refine WX.arCut (len := 4) (lo := 0 + 1) (hi := 3) rfl rfl rfl (by decide) (by decide) rfl ?_
     repeat' (first | refine go ?_ | refine mN ?_ | fail)
     refine WX.copyIn rfl rfl rfl rfl rfl rfl rfl ?_
     repeat' (first | refine go ?_ | refine mv ?_ | (refine I.ld ?_; refine ld rfl ?_) | (refine I.fa ?_; refine fa ?_) | (refine I.nc ?_; refine nc ?_) | (refine I.bin ?_; refine su ?_) | (refine I.st ?_; refine st rfl rfl ?_) | fail)
     have hn2 : (Cfg.wn (Ch.cfg ⟨ep + 1, [] ++ [x, y] ++ [y], ln⟩) 2).n = 2 := rfl
     refine W.flat (H' := [CfBk b (Cfg.wn (Ch.cfg ⟨ep + 1, [] ++ [x, y] ++ [y], ln⟩) 2), NBk nb k, R]) rfl ?_
     refine W.mixN 8 (List.replicate 9 true) [CfBk b (Cfg.wn (Ch.cfg ⟨ep + 1, [] ++ [x, y] ++ [y], ln⟩) 2)] Tryz.mix (by kernel_rfl) ?_
     repeat' (first | refine go ?_ | refine mv ?_ | (refine I.ld ?_; refine ld rfl ?_) | refine asg ?_ | (refine I.fa ?_; refine fa ?_) | (refine I.nc ?_; refine nc ?_) | refine mN ?_ | refine mU ?_ | (refine I.ix ?_; refine iP ?_) | (refine I.st ?_; refine sG rfl rfl ?_) | refine bd ?_ | fail)
     refine D.flat (H' := [CfBk b (Ch.cfg ⟨ep + 1, [] ++ [x, y], ln⟩), NBk nb k, R]) rfl ?_
     exact D.fin1 [CfBk b (Ch.cfg ⟨ep + 1, [] ++ [x, y], ln⟩), NBk nb k] _ rfl rfl ⟨_, rfl, rfl, fun c' h => by cases h; rfl⟩
    ·have gq : plc (Ch.on ⟨ep, [] ++ p :: [x, y, z], ln⟩).ms k = 0 := g1
     have hnn : (Ch.on ⟨ep, [] ++ p :: [x, y, z], ln⟩).cfg.n = 4 := rfl
     rw [gq]
     repeat' (first | refine go ?_ | refine mv ?_ | (refine I.ld ?_; refine ld rfl ?_) | refine asg ?_ | (refine I.gd ?_; refine gy ?_) | (refine I.fa ?_; refine fa ?_) | (refine I.nc ?_; refine nc ?_) | (refine I.bin ?_; refine cm rfl rfl ?_) | (refine I.pk ?_; refine pF ?_) | (refine I.cond ?_; refine cF ?_) | fail)
     refine W.mixN 8 (List.replicate 15 true) [CfBk b (Ch.on ⟨ep, [] ++ p :: [x, y, z], ln⟩).cfg] Tryz.mix (by kernel_rfl) ?_
     repeat' (first | refine go ?_ | refine mv ?_ | (refine I.fa ?_; refine fa ?_) | (refine I.nc ?_; refine nc ?_) | refine mU ?_ | fail)
     refine WX.arFrom (len := 4) (lo := 0) rfl rfl (by decide) rfl ?_
     repeat' (first | refine go ?_ | refine mv ?_ | (refine I.ld ?_; refine ld rfl ?_) | (refine I.fa ?_; refine fa ?_) | (refine I.nc ?_; refine nc ?_) | (refine I.bin ?_; refine ad ?_) | refine mU ?_ | fail)
     refine WX.arCut (len := 4) (lo := 0 + 1) (hi := 4) rfl rfl rfl (by decide) (by decide) rfl ?_
     repeat' (first | refine go ?_ | refine mN ?_ | fail)
     refine WX.copyIn rfl rfl rfl rfl rfl rfl rfl ?_
     repeat' (first | refine go ?_ | refine mv ?_ | (refine I.ld ?_; refine ld rfl ?_) | (refine I.fa ?_; refine fa ?_) | (refine I.nc ?_; refine nc ?_) | (refine I.bin ?_; refine su ?_) | (refine I.st ?_; refine st rfl rfl ?_) | fail)
     have hn2 : (Cfg.wn (Ch.cfg ⟨ep + 1, [] ++ [x, y, z] ++ [z], ln⟩) 3).n = 3 := rfl
     refine W.flat (H' := [CfBk b (Cfg.wn (Ch.cfg ⟨ep + 1, [] ++ [x, y, z] ++ [z], ln⟩) 3), NBk nb k, R]) rfl ?_
     refine W.mixN 8 (List.replicate 9 true) [CfBk b (Cfg.wn (Ch.cfg ⟨ep + 1, [] ++ [x, y, z] ++ [z], ln⟩) 3)] Tryz.mix (by kernel_rfl) ?_
     repeat' (first | refine go ?_ | refine mv ?_ | (refine I.ld ?_; refine ld rfl ?_) | refine asg ?_ | (refine I.fa ?_; refine fa ?_) | (refine I.nc ?_; refine nc ?_) | refine mN ?_ | refine mU ?_ | (refine I.ix ?_; refine iP ?_) | (refine I.st ?_; refine sG rfl rfl ?_) | refine bd ?_ | fail)
     refine D.flat (H' := [CfBk b (Ch.cfg ⟨ep + 1, [] ++ [x, y, z], ln⟩), NBk nb k, R]) rfl ?_
     exact D.fin1 [CfBk b (Ch.cfg ⟨ep + 1, [] ++ [x, y, z], ln⟩), NBk nb k] _ rfl rfl ⟨_, rfl, rfl, fun c' h => by cases h; rfl⟩
    ·have gq : plc (Ch.on ⟨ep, [x] ++ p :: [], ln⟩).ms k = 1 := g1
     have hnn : (Ch.on ⟨ep, [x] ++ p :: [], ln⟩).cfg.n = 2 := rfl
     rw [gq]
     repeat' (first | refine go ?_ | refine mv ?_ | (refine I.ld ?_; refine ld rfl ?_) | refine asg ?_ | (refine I.gd ?_; refine gy ?_) | (refine I.fa ?_; refine fa ?_) | (refine I.nc ?_; refine nc ?_) | (refine I.bin ?_; refine cm rfl rfl ?_) | (refine I.pk ?_; refine pF ?_) | (refine I.cond ?_; refine cF ?_) | fail)
     refine W.mixN 8 (List.replicate 15 true) [CfBk b (Ch.on ⟨ep, [x] ++ p :: [], ln⟩).cfg] Tryz.mix (by kernel_rfl) ?_
     repeat' (first | refine go ?_ | refine mv ?_ | (refine I.fa ?_; refine fa ?_) | (refine I.nc ?_; refine nc ?_) | refine mU ?_ | fail)
     refine WX.arFrom (len := 4) (lo := 1) rfl rfl (by decide) rfl ?_
     repeat' (first | refine go ?_ | refine mv ?_ | (refine I.ld ?_; refine ld rfl ?_) | (refine I.fa ?_; refine fa ?_) | (refine I.nc ?_; refine nc ?_) | (refine I.bin ?_; refine ad ?_) | refine mU ?_ | fail)
     refine WX.arCut (len := 4) (lo := 1 + 1) (hi := 2) rfl rfl rfl (by decide) (by decide) rfl ?_
     repeat' (first | refine go ?_ | refine mN ?_ | fail)
     refine WX.copyIn rfl rfl rfl rfl rfl rfl rfl ?_
     repeat' (first | refine go ?_ | refine mv ?_ | (refine I.ld ?_; refine ld rfl ?_) | (refine I.fa ?_; refine fa ?_) | (refine I.nc ?_; refine nc ?_) | (refine I.bin ?_; refine su ?_) | (refine I.st ?_; refine st rfl rfl ?_) | fail)
     have hn2 : (Cfg.wn (Ch.cfg ⟨ep + 1, [x] ++ [] ++ [p], ln⟩) 1).n = 1 := rfl
     refine W.flat (H' := [CfBk b (Cfg.wn (Ch.cfg ⟨ep + 1, [x] ++ [] ++ [p], ln⟩) 1), NBk nb k, R]) rfl ?_
     refine W.mixN 8 (List.replicate 9 true) [CfBk b (Cfg.wn (Ch.cfg ⟨ep + 1, [x] ++ [] ++ [p], ln⟩) 1)] Tryz.mix (by kernel_rfl) ?_
     repeat' (first | refine go ?_ | refine mv ?_ | (refine I.ld ?_; refine ld rfl ?_) | refine asg ?_ | (refine I.fa ?_; refine fa ?_) | (refine I.nc ?_; refine nc ?_) | refine mN ?_ | refine mU ?_ | (refine I.ix ?_; refine iP ?_) | (refine I.st ?_; refine sG rfl rfl ?_) | refine bd ?_ | fail)
     refine D.flat (H' := [CfBk b (Ch.cfg ⟨ep + 1, [x] ++ [], ln⟩), NBk nb k, R]) rfl ?_
     exact D.fin1 [CfBk b (Ch.cfg ⟨ep + 1, [x] ++ [], ln⟩), NBk nb k] _ rfl rfl ⟨_, rfl, rfl, fun c' h => by cases h; rfl⟩
    ·have gq : plc (Ch.on ⟨ep, [x] ++ p :: [y], ln⟩).ms k = 1 := g1
     have hnn : (Ch.on ⟨ep, [x] ++ p :: [y], ln⟩).cfg.n = 3 := rfl
     rw [gq]
     repeat' (first | refine go ?_ | refine mv ?_ | (refine I.ld ?_; refine ld rfl ?_) | refine asg ?_ | (refine I.gd ?_; refine gy ?_) | (refine I.fa ?_; refine fa ?_) | (refine I.nc ?_; refine nc ?_) | (refine I.bin ?_; refine cm rfl rfl ?_) | (refine I.pk ?_; refine pF ?_) | (refine I.cond ?_; refine cF ?_) | fail)
     refine W.mixN 8 (List.replicate 15 true) [CfBk b (Ch.on ⟨ep, [x] ++ p :: [y], ln⟩).cfg] Tryz.mix (by kernel_rfl) ?_
     repeat' (first | refine go ?_ | refine mv ?_ | (refine I.fa ?_; refine fa ?_) | (refine I.nc ?_; refine nc ?_) | refine mU ?_ | fail)
     refine WX.arFrom (len := 4) (lo := 1) rfl rfl (by decide) rfl ?_
     repeat' (first | refine go ?_ | refine mv ?_ | (refine I.ld ?_; refine ld rfl ?_) | (refine I.fa ?_; refine fa ?_) | (refine I.nc ?_; refine nc ?_) | (refine I.bin ?_; refine ad ?_) | refine mU ?_ | fail)
     refine WX.arCut (len := 4) (lo := 1 + 1) (hi := 3) rfl rfl rfl (by decide) (by decide) rfl ?_
     repeat' (first | refine go ?_ | refine mN ?_ | fail)
     refine WX.copyIn rfl rfl rfl rfl rfl rfl rfl ?_
     repeat' (first | refine go ?_ | refine mv ?_ | (refine I.ld ?_; refine ld rfl ?_) | (refine I.fa ?_; refine fa ?_) | (refine I.nc ?_; refine nc ?_) | (refine I.bin ?_; refine su ?_) | (refine I.st ?_; refine st rfl rfl ?_) | fail)
     have hn2 : (Cfg.wn (Ch.cfg ⟨ep + 1, [x] ++ [y] ++ [y], ln⟩) 2).n = 2 := rfl
     refine W.flat (H' := [CfBk b (Cfg.wn (Ch.cfg ⟨ep + 1, [x] ++ [y] ++ [y], ln⟩) 2), NBk nb k, R]) rfl ?_
     refine W.mixN 8 (List.replicate 9 true) [CfBk b (Cfg.wn (Ch.cfg ⟨ep + 1, [x] ++ [y] ++ [y], ln⟩) 2)] Tryz.mix (by kernel_rfl) ?_
     repeat' (first | refine go ?_ | refine mv ?_ | (refine I.ld ?_; refine ld rfl ?_) | refine asg ?_ | (refine I.fa ?_; refine fa ?_) | (refine I.nc ?_; refine nc ?_) | refine mN ?_ | refine mU ?_ | (refine I.ix ?_; refine iP ?_) | (refine I.st ?_; refine sG rfl rfl ?_) | refine bd ?_ | fail)
     refine D.flat (H' := [CfBk b (Ch.cfg ⟨ep + 1, [x] ++ [y], ln⟩), NBk nb k, R]) rfl ?_
     exact D.fin1 [CfBk b (Ch.cfg ⟨ep + 1, [x] ++ [y], ln⟩), NBk nb k] _ rfl rfl ⟨_, rfl, rfl, fun c' h => by cases h; rfl⟩
    ·have gq : plc (Ch.on ⟨ep, [x] ++ p :: [y, z], ln⟩).ms k = 1 := g1
     have hnn : (Ch.on ⟨ep, [x] ++ p :: [y, z], ln⟩).cfg.n = 4 := rfl
     rw [gq]
     repeat' (first | refine go ?_ | refine mv ?_ | (refine I.ld ?_; refine ld rfl ?_) | refine asg ?_ | (refine I.gd ?_; refine gy ?_) | (refine I.fa ?_; refine fa ?_) | (refine I.nc ?_; refine nc ?_) | (refine I.bin ?_; refine cm rfl rfl ?_) | (refine I.pk ?_; refine pF ?_) | (refine I.cond ?_; refine cF ?_) | fail)
     refine W.mixN 8 (List.replicate 15 true) [CfBk b (Ch.on ⟨ep, [x] ++ p :: [y, z], ln⟩).cfg] Tryz.mix (by kernel_rfl) ?_
     repeat' (first | refine go ?_ | refine mv ?_ | (refine I.fa ?_; refine fa ?_) | (refine I.nc ?_; refine nc ?_) | refine mU ?_ | fail)
     refine WX.arFrom (len := 4) (lo := 1) rfl rfl (by decide) rfl ?_
     repeat' (first | refine go ?_ | refine mv ?_ | (refine I.ld ?_; refine ld rfl ?_) | (refine I.fa ?_; refine fa ?_) | (refine I.nc ?_; refine nc ?_) | (refine I.bin ?_; refine ad ?_) | refine mU ?_ | fail)
     refine WX.arCut (len := 4) (lo := 1 + 1) (hi := 4) rfl rfl rfl (by decide) (by decide) rfl ?_
     repeat' (first | refine go ?_ | refine mN ?_ | fail)
     refine WX.copyIn rfl rfl rfl rfl rfl rfl rfl ?_
     repeat' (first | refine go ?_ | refine mv ?_ | (refine I.ld ?_; refine ld rfl ?_) | (refine I.fa ?_; refine fa ?_) | (refine I.nc ?_; refine nc ?_) | (refine I.bin ?_; refine su ?_) | (refine I.st ?_; refine st rfl rfl ?_) | fail)
     have hn2 : (Cfg.wn (Ch.cfg ⟨ep + 1, [x] ++ [y, z] ++ [z], ln⟩) 3).n = 3 := rfl
     refine W.flat (H' := [CfBk b (Cfg.wn (Ch.cfg ⟨ep + 1, [x] ++ [y, z] ++ [z], ln⟩) 3), NBk nb k, R]) rfl ?_
     refine W.mixN 8 (List.replicate 9 true) [CfBk b (Cfg.wn (Ch.cfg ⟨ep + 1, [x] ++ [y, z] ++ [z], ln⟩) 3)] Tryz.mix (by kernel_rfl) ?_
     repeat' (first | refine go ?_ | refine mv ?_ | (refine I.ld ?_; refine ld rfl ?_) | refine asg ?_ | (refine I.fa ?_; refine fa ?_) | (refine I.nc ?_; refine nc ?_) | refine mN ?_ | refine mU ?_ | (refine I.ix ?_; refine iP ?_) | (refine I.st ?_; refine sG rfl rfl ?_) | refine bd ?_ | fail)
     refine D.flat (H' := [CfBk b (Ch.cfg ⟨ep + 1, [x] ++ [y, z], ln⟩), NBk nb k, R]) rfl ?_
     exact D.fin1 [CfBk b (Ch.cfg ⟨ep + 1, [x] ++ [y, z], ln⟩), NBk nb k] _ rfl rfl ⟨_, rfl, rfl, fun c' h => by cases h; rfl⟩
    ·have gq : plc (Ch.on ⟨ep, [x, y] ++ p :: [], ln⟩).ms k = 2 := g1
     have hnn : (Ch.on ⟨ep, [x, y] ++ p :: [], ln⟩).cfg.n = 3 := rfl
     rw [gq]
     repeat' (first | refine go ?_ | refine mv ?_ | (refine I.ld ?_; refine ld rfl ?_) | refine asg ?_ | (refine I.gd ?_; refine gy ?_) | (refine I.fa ?_; refine fa ?_) | (refine I.nc ?_; refine nc ?_) | (refine I.bin ?_; refine cm rfl rfl ?_) | (refine I.pk ?_; refine pF ?_) | (refine I.cond ?_; refine cF ?_) | fail)
     refine W.mixN 8 (List.replicate 15 true) [CfBk b (Ch.on ⟨ep, [x, y] ++ p :: [], ln⟩).cfg] Tryz.mix (by kernel_rfl) ?_
     repeat' (first | refine go ?_ | refine mv ?_ | (refine I.fa ?_; refine fa ?_) | (refine I.nc ?_; refine nc ?_) | refine mU ?_ | fail)
     refine WX.arFrom (len := 4) (lo := 2) rfl rfl (by decide) rfl ?_
     repeat' (first | refine go ?_ | refine mv ?_ | (refine I.ld ?_; refine ld rfl ?_) | (refine I.fa ?_; refine fa ?_) | (refine I.nc ?_; refine nc ?_) | (refine I.bin ?_; refine ad ?_) | refine mU ?_ | fail)
     refine WX.arCut (len := 4) (lo := 2 + 1) (hi := 3) rfl rfl rfl (by decide) (by decide) rfl ?_
     repeat' (first | refine go ?_ | refine mN ?_ | fail)
     refine WX.copyIn rfl rfl rfl rfl rfl rfl rfl ?_
     repeat' (first | refine go ?_ | refine mv ?_ | (refine I.ld ?_; refine ld rfl ?_) | (refine I.fa ?_; refine fa ?_) | (refine I.nc ?_; refine nc ?_) | (refine I.bin ?_; refine su ?_) | (refine I.st ?_; refine st rfl rfl ?_) | fail)
     have hn2 : (Cfg.wn (Ch.cfg ⟨ep + 1, [x, y] ++ [] ++ [p], ln⟩) 2).n = 2 := rfl
     refine W.flat (H' := [CfBk b (Cfg.wn (Ch.cfg ⟨ep + 1, [x, y] ++ [] ++ [p], ln⟩) 2), NBk nb k, R]) rfl ?_
     refine W.mixN 8 (List.replicate 9 true) [CfBk b (Cfg.wn (Ch.cfg ⟨ep + 1, [x, y] ++ [] ++ [p], ln⟩) 2)] Tryz.mix (by kernel_rfl) ?_
     repeat' (first | refine go ?_ | refine mv ?_ | (refine I.ld ?_; refine ld rfl ?_) | refine asg ?_ | (refine I.fa ?_; refine fa ?_) | (refine I.nc ?_; refine nc ?_) | refine mN ?_ | refine mU ?_ | (refine I.ix ?_; refine iP ?_) | (refine I.st ?_; refine sG rfl rfl ?_) | refine bd ?_ | fail)
     refine D.flat (H' := [CfBk b (Ch.cfg ⟨ep + 1, [x, y] ++ [], ln⟩), NBk nb k, R]) rfl ?_
     exact D.fin1 [CfBk b (Ch.cfg ⟨ep + 1, [x, y] ++ [], ln⟩), NBk nb k] _ rfl rfl ⟨_, rfl, rfl, fun c' h => by cases h; rfl⟩
    ·have gq : plc (Ch.on ⟨ep, [x, y] ++ p :: [z], ln⟩).ms k = 2 := g1
     have hnn : (Ch.on ⟨ep, [x, y] ++ p :: [z], ln⟩).cfg.n = 4 := rfl
     rw [gq]
     repeat' (first | refine go ?_ | refine mv ?_ | (refine I.ld ?_; refine ld rfl ?_) | refine asg ?_ | (refine I.gd ?_; refine gy ?_) | (refine I.fa ?_; refine fa ?_) | (refine I.nc ?_; refine nc ?_) | (refine I.bin ?_; refine cm rfl rfl ?_) | (refine I.pk ?_; refine pF ?_) | (refine I.cond ?_; refine cF ?_) | fail)
     refine W.mixN 8 (List.replicate 15 true) [CfBk b (Ch.on ⟨ep, [x, y] ++ p :: [z], ln⟩).cfg] Tryz.mix (by kernel_rfl) ?_
     repeat' (first | refine go ?_ | refine mv ?_ | (refine I.fa ?_; refine fa ?_) | (refine I.nc ?_; refine nc ?_) | refine mU ?_ | fail)
     refine WX.arFrom (len := 4) (lo := 2) rfl rfl (by decide) rfl ?_
     repeat' (first | refine go ?_ | refine mv ?_ | (refine I.ld ?_; refine ld rfl ?_) | (refine I.fa ?_; refine fa ?_) | (refine I.nc ?_; refine nc ?_) | (refine I.bin ?_; refine ad ?_) | refine mU ?_ | fail)
     refine WX.arCut (len := 4) (lo := 2 + 1) (hi := 4) rfl rfl rfl (by decide) (by decide) rfl ?_
     repeat' (first | refine go ?_ | refine mN ?_ | fail)
     refine WX.copyIn rfl rfl rfl rfl rfl rfl rfl ?_
     repeat' (first | refine go ?_ | refine mv ?_ | (refine I.ld ?_; refine ld rfl ?_) | (refine I.fa ?_; refine fa ?_) | (refine I.nc ?_; refine nc ?_) | (refine I.bin ?_; refine su ?_) | (refine I.st ?_; refine st rfl rfl ?_) | fail)
     have hn2 : (Cfg.wn (Ch.cfg ⟨ep + 1, [x, y] ++ [z] ++ [z], ln⟩) 3).n = 3 := rfl
     refine W.flat (H' := [CfBk b (Cfg.wn (Ch.cfg ⟨ep + 1, [x, y] ++ [z] ++ [z], ln⟩) 3), NBk nb k, R]) rfl ?_
     refine W.mixN 8 (List.replicate 9 true) [CfBk b (Cfg.wn (Ch.cfg ⟨ep + 1, [x, y] ++ [z] ++ [z], ln⟩) 3)] Tryz.mix (by kernel_rfl) ?_
     repeat' (first | refine go ?_ | refine mv ?_ | (refine I.ld ?_; refine ld rfl ?_) | refine asg ?_ | (refine I.fa ?_; refine fa ?_) | (refine I.nc ?_; refine nc ?_) | refine mN ?_ | refine mU ?_ | (refine I.ix ?_; refine iP ?_) | (refine I.st ?_; refine sG rfl rfl ?_) | refine bd ?_ | fail)
     refine D.flat (H' := [CfBk b (Ch.cfg ⟨ep + 1, [x, y] ++ [z], ln⟩), NBk nb k, R]) rfl ?_
     exact D.fin1 [CfBk b (Ch.cfg ⟨ep + 1, [x, y] ++ [z], ln⟩), NBk nb k] _ rfl rfl ⟨_, rfl, rfl, fun c' h => by cases h; rfl⟩
    ·have gq : plc (Ch.on ⟨ep, [x, y, z] ++ p :: [], ln⟩).ms k = 3 := g1
     have hnn : (Ch.on ⟨ep, [x, y, z] ++ p :: [], ln⟩).cfg.n = 4 := rfl
     rw [gq]
     repeat' (first | refine go ?_ | refine mv ?_ | (refine I.ld ?_; refine ld rfl ?_) | refine asg ?_ | (refine I.gd ?_; refine gy ?_) | (refine I.fa ?_; refine fa ?_) | (refine I.nc ?_; refine nc ?_) | (refine I.bin ?_; refine cm rfl rfl ?_) | (refine I.pk ?_; refine pF ?_) | (refine I.cond ?_; refine cF ?_) | fail)
     refine W.mixN 8 (List.replicate 15 true) [CfBk b (Ch.on ⟨ep, [x, y, z] ++ p :: [], ln⟩).cfg] Tryz.mix (by kernel_rfl) ?_
     repeat' (first | refine go ?_ | refine mv ?_ | (refine I.fa ?_; refine fa ?_) | (refine I.nc ?_; refine nc ?_) | refine mU ?_ | fail)
     refine WX.arFrom (len := 4) (lo := 3) rfl rfl (by decide) rfl ?_
     repeat' (first | refine go ?_ | refine mv ?_ | (refine I.ld ?_; refine ld rfl ?_) | (refine I.fa ?_; refine fa ?_) | (refine I.nc ?_; refine nc ?_) | (refine I.bin ?_; refine ad ?_) | refine mU ?_ | fail)
     refine WX.arCut (len := 4) (lo := 3 + 1) (hi := 4) rfl rfl rfl (by decide) (by decide) rfl ?_
     repeat' (first | refine go ?_ | refine mN ?_ | fail)
     refine WX.copyIn rfl rfl rfl rfl rfl rfl rfl ?_
     repeat' (first | refine go ?_ | refine mv ?_ | (refine I.ld ?_; refine ld rfl ?_) | (refine I.fa ?_; refine fa ?_) | (refine I.nc ?_; refine nc ?_) | (refine I.bin ?_; refine su ?_) | (refine I.st ?_; refine st rfl rfl ?_) | fail)
     have hn2 : (Cfg.wn (Ch.cfg ⟨ep + 1, [x, y, z] ++ [] ++ [p], ln⟩) 3).n = 3 := rfl
     refine W.flat (H' := [CfBk b (Cfg.wn (Ch.cfg ⟨ep + 1, [x, y, z] ++ [] ++ [p], ln⟩) 3), NBk nb k, R]) rfl ?_
     refine W.mixN 8 (List.replicate 9 true) [CfBk b (Cfg.wn (Ch.cfg ⟨ep + 1, [x, y, z] ++ [] ++ [p], ln⟩) 3)] Tryz.mix (by kernel_rfl) ?_
     repeat' (first | refine go ?_ | refine mv ?_ | (refine I.ld ?_; refine ld rfl ?_) | refine asg ?_ | (refine I.fa ?_; refine fa ?_) | (refine I.nc ?_; refine nc ?_) | refine mN ?_ | refine mU ?_ | (refine I.ix ?_; refine iP ?_) | (refine I.st ?_; refine sG rfl rfl ?_) | refine bd ?_ | fail)
     refine D.flat (H' := [CfBk b (Ch.cfg ⟨ep + 1, [x, y, z] ++ [], ln⟩), NBk nb k, R]) rfl ?_
     exact D.fin1 [CfBk b (Ch.cfg ⟨ep + 1, [x, y, z] ++ [], ln⟩), NBk nb k] _ rfl rfl ⟨_, rfl, rfl, fun c' h => by cases h; rfl⟩
  ·have hno : c.has k = false := by cases h : c.has k with | false => rfl | true => exact absurd h hh
   have ha : dropL c k = none := by unfold dropL; rw [if_neg he, if_neg (by rw [hnl]; decide), if_pos (.inl hno)]
   have g1 : plc c.on.ms k = -1 := plc_none fun q hq h => hh (Ch.has_iff.2 ⟨q, hq, h⟩)
   rw [g1]
   repeat' (first | refine go ?_ | refine mv ?_ | refine asg ?_ | (refine I.gd ?_; refine gn ?_) | (refine I.bin ?_; refine cm rfl rfl ?_) | (refine I.pk ?_; refine pT ?_) | (refine I.cond ?_; refine cT ?_) | fail)
   rw [ha]
   exact D.fin1 [CfBk b c.on.cfg, NBk nb k] _ rfl rfl ⟨_, rfl, rfl, fun c' h => by cases h⟩
end Go.Proofs.YtfcefidmdijjkaaGreat

namespace Go.Proofs.YtfcefidmdijjkaaGreat
open Go Go.Sl
def withV (nb : Nat) : Value := .func (.func 91) (List.toArray []) (List.toArray [.pointer (some ⟨nb, 0, none⟩)])
def dropV (nb : Nat) : Value := .func (.func 95) (List.toArray []) (List.toArray [.pointer (some ⟨nb, 0, none⟩)])
def growV : Value := .func (.func 94) (List.toArray []) (List.toArray [])
set_option maxRecDepth 20000 in
theorem turnWith_ct {c : Ch} (ok : ChOk c) (nb : Nat) (k : Int) :
  Ct Tryz.prog 90 [.agg (List.toArray c.cfg.enc), withV nb] [NBk nb k] (fun r H' => r = chRes (addL c k) ∧ H' = [NBk nb k]) := by
 have he1 : 1 ≤ c.cfg.ep := ok.e1
 have he2 : c.cfg.ep ≤ 1099511627776 := ok.e2
 refine Ct.mk' Tryz.func90 rfl rfl rfl (fun g R => ?_)
 try simp only [List.cons_append]
 simp only [List.nil_append]
 repeat' (first | refine go ?_ | (refine I.ld ?_; refine lA rfl ?_) | refine asg ?_ | refine bx rfl (fun _ => ?_) | refine al (fun _ => ?_) | fail)
 refine WX.callQ rfl (right_ct ok) rfl ?_
 by_cases he : c.ep = 1099511627776
 ·have hep : c.cfg.ep = 1099511627776 := he
  have ha : addL c k = none := by unfold addL; rw [if_pos (.inl he)]
  rw [ha]
  repeat' (first | refine go ?_ | refine mv ?_ | (refine I.ld ?_; refine ld rfl ?_) | refine asg ?_ | (refine I.gd ?_; refine gy ?_) | (refine I.fa ?_; refine fa ?_) | (refine I.bin ?_; refine cm rfl rfl ?_) | (refine I.pk ?_; refine pF ?_) | (refine I.cond ?_; refine cP ?_) | (refine I.st ?_; refine sG rfl rfl ?_) | (refine I.un ?_; refine nt ?_) | refine bd ?_ | fail)
  exact D.finR [NBk nb k] _ rfl (.cellA rfl rfl (.tmp rfl .nil)) rfl ⟨rfl, rfl⟩
 ·have hep : ¬ c.cfg.ep = 1099511627776 := he
  repeat' (first | refine go ?_ | refine mv ?_ | (refine I.ld ?_; refine ld rfl ?_) | (refine I.gd ?_; refine gy ?_) | (refine I.fa ?_; refine fa ?_) | (refine I.bin ?_; first | refine cm rfl rfl ?_ | refine ad ?_) | (refine I.pk ?_; refine pF ?_) | (refine I.cond ?_; refine cN ?_) | (refine I.st ?_; refine st rfl rfl ?_) | (refine I.un ?_; refine nt ?_) | fail)
  rename_i b b4
  refine WX.hp (H' := [CfBk b4 Cfg.z, CfBk b c.on.cfg, NBk nb k, R]) rfl ?_
  refine WX.callV rfl rfl (withF_ct ok he b nb k) rfl ?_
  rintro _ _ ⟨c2, rfl, rfl, hc2⟩
  simp only [List.cons_append, List.nil_append]
  cases ha : addL c k with
  | none =>
   repeat' (first | refine go ?_ | refine asg ?_ | (refine I.cond ?_; refine cT ?_) | (refine I.st ?_; refine sG rfl rfl ?_) | (refine I.un ?_; refine nt ?_) | refine bd ?_ | fail)
   exact D.finR [NBk nb k] _ rfl (.cellA rfl rfl (.tmp rfl .nil)) rfl ⟨rfl, rfl⟩
  | some c' =>
   obtain rfl := hc2 c' ha
   repeat' (first | refine go ?_ | (refine I.ld ?_; refine lA rfl ?_) | refine asg ?_ | (refine I.cond ?_; refine cF ?_) | (refine I.st ?_; refine sG rfl rfl ?_) | (refine I.un ?_; refine nt ?_) | fail)
   exact D.finR [NBk nb k] _ rfl (.cellA rfl rfl (.tmp rfl .nil)) rfl ⟨rfl, rfl⟩
set_option maxRecDepth 20000 in
theorem turnDrop_ct {c : Ch} (ok : ChOk c) (nb : Nat) (k : Int) :
  Ct Tryz.prog 90 [.agg (List.toArray c.cfg.enc), dropV nb] [NBk nb k] (fun r H' => r = chRes (dropL c k) ∧ H' = [NBk nb k]) := by
 have he1 : 1 ≤ c.cfg.ep := ok.e1
 have he2 : c.cfg.ep ≤ 1099511627776 := ok.e2
 refine Ct.mk' Tryz.func90 rfl rfl rfl (fun g R => ?_)
 try simp only [List.cons_append]
 simp only [List.nil_append]
 repeat' (first | refine go ?_ | (refine I.ld ?_; refine lA rfl ?_) | refine asg ?_ | refine bx rfl (fun _ => ?_) | refine al (fun _ => ?_) | fail)
 refine WX.callQ rfl (right_ct ok) rfl ?_
 by_cases he : c.ep = 1099511627776
 ·have hep : c.cfg.ep = 1099511627776 := he
  have ha : dropL c k = none := by unfold dropL; rw [if_pos he]
  rw [ha]
  repeat' (first | refine go ?_ | refine mv ?_ | (refine I.ld ?_; refine ld rfl ?_) | refine asg ?_ | (refine I.gd ?_; refine gy ?_) | (refine I.fa ?_; refine fa ?_) | (refine I.bin ?_; refine cm rfl rfl ?_) | (refine I.pk ?_; refine pF ?_) | (refine I.cond ?_; refine cP ?_) | (refine I.st ?_; refine sG rfl rfl ?_) | (refine I.un ?_; refine nt ?_) | refine bd ?_ | fail)
  exact D.finR [NBk nb k] _ rfl (.cellA rfl rfl (.tmp rfl .nil)) rfl ⟨rfl, rfl⟩
 ·have hep : ¬ c.cfg.ep = 1099511627776 := he
  repeat' (first | refine go ?_ | refine mv ?_ | (refine I.ld ?_; refine ld rfl ?_) | (refine I.gd ?_; refine gy ?_) | (refine I.fa ?_; refine fa ?_) | (refine I.bin ?_; first | refine cm rfl rfl ?_ | refine ad ?_) | (refine I.pk ?_; refine pF ?_) | (refine I.cond ?_; refine cN ?_) | (refine I.st ?_; refine st rfl rfl ?_) | (refine I.un ?_; refine nt ?_) | fail)
  rename_i b b4
  refine WX.hp (H' := [CfBk b4 Cfg.z, CfBk b c.on.cfg, NBk nb k, R]) rfl ?_
  refine WX.callV rfl rfl (dropF_ct ok he b nb k) rfl ?_
  rintro _ _ ⟨c2, rfl, rfl, hc2⟩
  simp only [List.cons_append, List.nil_append]
  cases ha : dropL c k with
  | none =>
   repeat' (first | refine go ?_ | refine asg ?_ | (refine I.cond ?_; refine cT ?_) | (refine I.st ?_; refine sG rfl rfl ?_) | (refine I.un ?_; refine nt ?_) | refine bd ?_ | fail)
   exact D.finR [NBk nb k] _ rfl (.cellA rfl rfl (.tmp rfl .nil)) rfl ⟨rfl, rfl⟩
  | some c' =>
   obtain rfl := hc2 c' ha
   repeat' (first | refine go ?_ | (refine I.ld ?_; refine lA rfl ?_) | refine asg ?_ | (refine I.cond ?_; refine cF ?_) | (refine I.st ?_; refine sG rfl rfl ?_) | (refine I.un ?_; refine nt ?_) | fail)
   exact D.finR [NBk nb k] _ rfl (.cellA rfl rfl (.tmp rfl .nil)) rfl ⟨rfl, rfl⟩
set_option maxRecDepth 20000 in
theorem turnGrow_ct {c : Ch} (ok : ChOk c) :
  Ct Tryz.prog 90 [.agg (List.toArray c.cfg.enc), growV] [] (fun r H' => r = chRes (growL c) ∧ H' = []) := by
 have he1 : 1 ≤ c.cfg.ep := ok.e1
 have he2 : c.cfg.ep ≤ 1099511627776 := ok.e2
 refine Ct.mk' Tryz.func90 rfl rfl rfl (fun g R => ?_)
 try simp only [List.cons_append]
 simp only [List.nil_append]
 repeat' (first | refine go ?_ | (refine I.ld ?_; refine lA rfl ?_) | refine asg ?_ | refine bx rfl (fun _ => ?_) | refine al (fun _ => ?_) | fail)
 refine WX.callQ rfl (right_ct ok) rfl ?_
 by_cases he : c.ep = 1099511627776
 ·have hep : c.cfg.ep = 1099511627776 := he
  have ha : growL c = none := by unfold growL; rw [if_pos he]
  rw [ha]
  repeat' (first | refine go ?_ | refine mv ?_ | (refine I.ld ?_; refine ld rfl ?_) | refine asg ?_ | (refine I.gd ?_; refine gy ?_) | (refine I.fa ?_; refine fa ?_) | (refine I.bin ?_; refine cm rfl rfl ?_) | (refine I.pk ?_; refine pF ?_) | (refine I.cond ?_; refine cP ?_) | (refine I.st ?_; refine sG rfl rfl ?_) | (refine I.un ?_; refine nt ?_) | refine bd ?_ | fail)
  exact D.finR [] _ rfl (.cellA rfl rfl (.tmp rfl .nil)) rfl ⟨rfl, rfl⟩
 ·have hep : ¬ c.cfg.ep = 1099511627776 := he
  repeat' (first | refine go ?_ | refine mv ?_ | (refine I.ld ?_; refine ld rfl ?_) | (refine I.gd ?_; refine gy ?_) | (refine I.fa ?_; refine fa ?_) | (refine I.bin ?_; first | refine cm rfl rfl ?_ | refine ad ?_) | (refine I.pk ?_; refine pF ?_) | (refine I.cond ?_; refine cN ?_) | (refine I.st ?_; refine st rfl rfl ?_) | (refine I.un ?_; refine nt ?_) | fail)
  rename_i b b4
  refine WX.hp (H' := [CfBk b4 Cfg.z, CfBk b c.on.cfg, R]) rfl ?_
  refine WX.callV rfl rfl (growF_ct ok he b) rfl ?_
  rintro _ _ ⟨c2, rfl, rfl, hc2⟩
  simp only [List.cons_append, List.nil_append]
  cases ha : growL c with
  | none =>
   repeat' (first | refine go ?_ | refine asg ?_ | (refine I.cond ?_; refine cT ?_) | (refine I.st ?_; refine sG rfl rfl ?_) | (refine I.un ?_; refine nt ?_) | refine bd ?_ | fail)
   exact D.finR [] _ rfl (.cellA rfl rfl (.tmp rfl .nil)) rfl ⟨rfl, rfl⟩
  | some c' =>
   obtain rfl := hc2 c' ha
   repeat' (first | refine go ?_ | (refine I.ld ?_; refine lA rfl ?_) | refine asg ?_ | (refine I.cond ?_; refine cF ?_) | (refine I.st ?_; refine sG rfl rfl ?_) | (refine I.un ?_; refine nt ?_) | fail)
   exact D.finR [] _ rfl (.cellA rfl rfl (.tmp rfl .nil)) rfl ⟨rfl, rfl⟩
theorem with_ct {c : Ch} (ok : ChOk c) (k : Int) :
  Ct Tryz.prog 51 [.agg (List.toArray c.cfg.enc), .int .i64 k] [] (fun r H' => r = chRes (addL c k) ∧ H' = []) := by
 refine Ct.mk' Tryz.func51 rfl rfl rfl (fun g R => ?_)
 try simp only [List.cons_append]
 simp only [List.nil_append]
 repeat' (first | refine go ?_ | (refine I.ld ?_; refine lA rfl ?_) | refine asg ?_ | refine bx rfl (fun _ => ?_) | refine al (fun _ => ?_) | (refine WX.makeFunc (first := []) rfl rfl rfl ?_) | fail)
 rename_i b nb b4
 refine WX.call rfl (turnWith_ct ok nb k) rfl ?_
 rintro _ _ ⟨rfl, rfl⟩
 unfold chRes
 generalize (addL c k).isSome = cb
 simp only [List.cons_append, List.nil_append]
 repeat' (first | refine go ?_ | refine asg ?_ | (refine I.st ?_; refine sG rfl rfl ?_) | refine ex ?_ | fail)
 exact D.finR [] _ rfl (.cellA rfl rfl (.tmp rfl .nil)) rfl ⟨rfl, rfl⟩
theorem drop_ct {c : Ch} (ok : ChOk c) (k : Int) :
  Ct Tryz.prog 56 [.agg (List.toArray c.cfg.enc), .int .i64 k] [] (fun r H' => r = chRes (dropL c k) ∧ H' = []) := by
 refine Ct.mk' Tryz.func56 rfl rfl rfl (fun g R => ?_)
 try simp only [List.cons_append]
 simp only [List.nil_append]
 repeat' (first | refine go ?_ | (refine I.ld ?_; refine lA rfl ?_) | refine asg ?_ | refine bx rfl (fun _ => ?_) | refine al (fun _ => ?_) | (refine WX.makeFunc (first := []) rfl rfl rfl ?_) | fail)
 rename_i b nb b4
 refine WX.call rfl (turnDrop_ct ok nb k) rfl ?_
 rintro _ _ ⟨rfl, rfl⟩
 unfold chRes
 generalize (dropL c k).isSome = cb
 simp only [List.cons_append, List.nil_append]
 repeat' (first | refine go ?_ | refine asg ?_ | (refine I.st ?_; refine sG rfl rfl ?_) | refine ex ?_ | fail)
 exact D.finR [] _ rfl (.cellA rfl rfl (.tmp rfl .nil)) rfl ⟨rfl, rfl⟩
theorem grow_ct {c : Ch} (ok : ChOk c) :
  Ct Tryz.prog 53 [.agg (List.toArray c.cfg.enc)] [] (fun r H' => r = chRes (growL c) ∧ H' = []) := by
 refine Ct.mk' Tryz.func53 rfl rfl rfl (fun g R => ?_)
 try simp only [List.cons_append]
 simp only [List.nil_append]
 repeat' (first | refine go ?_ | (refine I.ld ?_; refine lA rfl ?_) | refine asg ?_ | refine bx rfl (fun _ => ?_) | refine al (fun _ => ?_) | fail)
 rename_i b b4
 refine WX.call rfl (turnGrow_ct ok) rfl ?_
 rintro _ _ ⟨rfl, rfl⟩
 unfold chRes
 generalize (growL c).isSome = cb
 simp only [List.cons_append, List.nil_append]
 repeat' (first | refine go ?_ | refine asg ?_ | (refine I.st ?_; refine sG rfl rfl ?_) | refine ex ?_ | fail)
 exact D.finR [] _ rfl (.cellA rfl rfl (.tmp rfl .nil)) rfl ⟨rfl, rfl⟩
end Go.Proofs.YtfcefidmdijjkaaGreat

namespace Go.Proofs.YtfcefidmdijjkaaGreat
open Go Go.Sl
theorem nodes_ct {c : Ch} (ok : ChOk c) :
  Ct Tryz.prog 14 [.agg (List.toArray c.cfg.enc)] [] (fun r H' => ∃ h', IsSl 3 (c.all.map (·.nd)) r h' ∧ H' = [h']) := by
 have hall : c.all.length ≤ 4 := by have := ok.l4; unfold Ch.all; rw [List.length_append]; exact this
 refine Ct.mk' Tryz.func14 rfl rfl rfl (fun g R => ?_)
 try simp only [List.cons_append]
 simp only [List.nil_append]
 repeat' (first | refine go ?_ | (refine I.ld ?_; refine lA rfl ?_) | refine asg ?_ | refine bx rfl (fun _ => ?_) | fail)
 refine WX.callQ rfl (right_ct ok) rfl ?_
 repeat' (first | refine go ?_ | (refine I.ld ?_; refine lA rfl ?_) | refine asg ?_ | (refine I.cond ?_; refine cF ?_) | (refine I.un ?_; refine nt ?_) | fail)
 rename_i b
 refine WX.call rfl (members_ct ok) rfl ?_
 rintro _ _ ⟨hm, hsm, rfl⟩
 have hrm := hsm.rs
 obtain ⟨vp, vc, rfl⟩ := hrm.len
 simp only [List.cons_append, List.nil_append]
 repeat' (first | refine go ?_ | refine mv ?_ | (refine I.bi ?_; refine ln rfl (by assumption) ?_) | fail)
 refine W.nilH ?_
 refine W.loop (α := Nat × Value × Hp) (fun x => x.1 ≤ c.all.length ∧ IsSl 3 ((c.all.take x.1).map (·.nd)) x.2.1 x.2.2) (fun x => [(1, .pointer (some ⟨b, 0, none⟩)), (3, x.2.1), (10, .slice vp c.all.length vc), (11, .int .i64 (c.all.length : Nat)), (12, .int .i64 (x.1 : Int))]) (fun x => [x.2.2, hm, CfBk b c.cfg, R]) (fun x => c.all.length - x.1) (0, .slice none 0 0, []) ⟨Nat.zero_le _, IsSl.nil _⟩ (by repeat (first | exact Fsub.nil | refine Fsub.cons rfl ?_)) (Hsub.of_picks inferInstance) ?_
 rintro ⟨k, v, h⟩ ⟨hk, hs⟩
 simp only [] at hk hs ⊢
 have hvl : ((c.all.take k).map (·.nd)).length ≤ 4 := by rw [List.length_map, List.length_take]; omega
 by_cases hlt : k < c.all.length
 ·obtain ⟨m, hmk⟩ : ∃ m, c.all[k]? = some m := ⟨_, List.getElem?_eq_getElem hlt⟩
  repeat' (first | refine go ?_ | refine mv ?_ | (refine I.ld ?_; first | refine ld rfl ?_ | refine lF rfl (by assumption) ?_) | (refine I.fa ?_; refine fa ?_) | (refine I.bin ?_; refine cm rfl rfl ?_) | (refine I.cond ?_; refine cP ?_) | (refine I.ix ?_; refine ix rfl rfl ?_) | (refine I.st ?_; refine sG rfl rfl ?_) | refine al (fun _ => ?_) | fail)
  refine I.bs ?_
  refine WX.lit (ys := [m.nd]) rfl rfl rfl rfl rfl rfl (by decide) rfl (fun v2 h2 hs2 => ?_)
  skip
  refine WX.app rfl rfl hs hs2.rs rfl rfl (by decide) (by simp only [List.length_cons, List.length_nil]; omega) rfl (fun v3 h3 hs3 => ?_)
  have hs3 : IsSl 3 ((c.all.take (k + 1)).map (·.nd)) v3 h3 := by rw [List.take_add_one, hmk, List.map_append]; exact hs3
  repeat' (first | refine go ?_ | refine mv ?_ | refine asg ?_ | (refine I.bin ?_; refine ad ?_) | fail)
  exact D.round (k + 1, v3, h3) ⟨by simp only []; omega, hs3⟩ (by simp only []; omega) (by repeat (first | exact Fsub.nil | refine Fsub.cons rfl ?_)) (Hsub.of_picks inferInstance)
 ·obtain rfl : k = c.all.length := by omega
  rw [List.take_length] at hs
  repeat' (first | refine go ?_ | refine mv ?_ | refine asg ?_ | (refine I.bin ?_; refine cm rfl rfl ?_) | (refine I.cond ?_; refine cN ?_) | fail)
  exact D.fin1 [h] _ rfl rfl ⟨h, hs, rfl⟩
end Go.Proofs.YtfcefidmdijjkaaGreat

namespace Go.Proofs.YtfcefidmdijjkaaGreat
open Go Go.Sl
def iplc (xs : List Int) (k : Int) : Int := match xs.findIdx? (fun p => decide (p = k)) with | none => -1 | some i => (i : Int)
theorem iplc_some {ms : List Int} {k : Int} {j : Nat} {p : Int} (hp : ms[j]? = some p) (hpk : p = k) (hall : ∀ i p, i < j → ms[i]? = some p → ¬ p = k) : iplc ms k = (j : Int) := by
 have hf : ms.findIdx? (fun p => decide (p = k)) = some j := by
  rw [List.findIdx?_eq_some_iff_getElem]
  obtain ⟨h1, h2⟩ := List.getElem?_eq_some_iff.1 hp
  refine ⟨h1, by rw [h2]; simpa using hpk, fun i hi => ?_⟩
  have := hall i _ hi (List.getElem?_eq_getElem (by omega))
  simpa using this
 unfold iplc; rw [hf]
theorem iplc_none {ms : List Int} {k : Int} (hall : ∀ p ∈ ms, ¬ p = k) : iplc ms k = -1 := by
 have hf : ms.findIdx? (fun p => decide (p = k)) = none := by
  rw [List.findIdx?_eq_none_iff]
  intro x hx
  simpa using hall x hx
 unfold iplc; rw [hf]
theorem index_ct {ps : List Int} {v : Value} {h : Hp} (hs : Rs ps v h) (k : Int) (hl : ps.length ≤ 1000000) :
  Ct Tryz.prog 58 [v, .int .i64 k] [h] (fun r H' => r = .int .i64 (iplc ps k) ∧ H' = [h]) := by
 refine Ct.mk' Tryz.func58 rfl rfl rfl (fun g R => ?_)
 try simp only [List.cons_append]
 simp only [List.nil_append]
 repeat' (first | refine go ?_ | refine mv ?_ | refine asg ?_ | (refine I.bi ?_; refine ln rfl (by assumption) ?_) | fail)
 refine W.loop (α := Nat) (fun j => j ≤ ps.length ∧ ∀ i p, i < j → ps[i]? = some p → ¬ p = k) (fun j => [(0, v), (1, .int .i64 k), (7, .int .i64 (ps.length : Int)), (8, .int .i64 (j : Int))]) (fun _ => [h, R]) (fun j => ps.length - j) 0 ⟨Nat.zero_le _, fun i p hi => absurd hi (Nat.not_lt_zero _)⟩ (by repeat (first | exact Fsub.nil | refine Fsub.cons rfl ?_)) (Hsub.of_picks inferInstance) ?_
 rintro j ⟨hj, hall⟩
 by_cases hlt : j < ps.length
 ·obtain ⟨p, hp⟩ : ∃ p, ps[j]? = some p := ⟨_, List.getElem?_eq_getElem hlt⟩
  by_cases hpk : k = p
  ·repeat' (first | refine go ?_ | refine mv ?_ | (refine I.ld ?_; refine lE rfl (by assumption) ?_) | refine asg ?_ | (refine I.bin ?_; refine cm rfl rfl ?_) | (refine I.cond ?_; refine cP ?_) | (refine I.ix ?_; refine ix rfl rfl ?_) | fail)
   exact D.fin1 [h] _ rfl rfl ⟨by rw [iplc_some hp hpk.symm hall], rfl⟩
  ·repeat' (first | refine go ?_ | refine mv ?_ | (refine I.ld ?_; refine lE rfl (by assumption) ?_) | refine asg ?_ | (refine I.bin ?_; first | refine cm rfl rfl ?_ | refine ad ?_) | (refine I.cond ?_; first | refine cP ?_ | refine cN ?_) | (refine I.ix ?_; refine ix rfl rfl ?_) | fail)
   refine D.round (j + 1) ⟨by omega, fun i p' hi hp' => ?_⟩ (by omega) (by repeat (first | exact Fsub.nil | refine Fsub.cons rfl ?_)) (Hsub.of_picks inferInstance)
   rcases Nat.lt_or_ge i j with h | h
   ·exact hall i p' h hp'
   ·obtain rfl : i = j := by omega
    rw [hp] at hp'
    cases hp'
    exact fun e => hpk e.symm
 ·have hno : ∀ p ∈ ps, ¬ p = k := fun x hx => by
   obtain ⟨i, hi⟩ := List.mem_iff_getElem?.1 hx
   have hlt := (List.getElem?_eq_some_iff.1 hi).1
   exact hall i x (by omega) hi
  repeat' (first | refine go ?_ | refine asg ?_ | (refine I.bin ?_; refine cm rfl rfl ?_) | (refine I.cond ?_; refine cN ?_) | fail)
  exact D.fin1 [h] _ rfl rfl ⟨by rw [iplc_none hno], rfl⟩
theorem iplc_full {c : Ch} {k : Int} : (0 ≤ iplc (c.all.map (·.nd)) k ∧ iplc (c.all.map (·.nd)) k < (c.ms.length : Int)) ↔ c.has k = true := by
 have e : iplc (c.all.map (·.nd)) k = plc c.all k := by unfold iplc plc; rw [List.findIdx?_map]; rfl
 rw [e, Ch.has_iff]
 unfold plc Ch.all
 rw [List.findIdx?_append]
 cases hf : c.ms.findIdx? (fun p => decide (p.nd = k)) with
 | none =>
  rw [List.findIdx?_eq_none_iff] at hf
  have hno : ¬ ∃ m ∈ c.ms, m.nd = k := fun ⟨m, hm, e⟩ => by have := hf m hm; simp [e] at this
  refine ⟨fun h => ?_, fun h => absurd h hno⟩
  exfalso
  cases hg : c.ln.toList.findIdx? (fun p => decide (p.nd = k)) with
  | none => rw [hg] at h; simp at h
  | some i => rw [hg] at h; simp at h; omega
 | some i =>
  rw [List.findIdx?_eq_some_iff_getElem] at hf
  obtain ⟨h1, h2, _⟩ := hf
  simp only [Option.some_or]
  exact ⟨fun _ => ⟨_, List.getElem_mem h1, by simpa using h2⟩, fun _ => ⟨by omega, by omega⟩⟩
theorem full_ct {c : Ch} (ok : ChOk c) (k : Int) :
  Ct Tryz.prog 24 [.agg (List.toArray c.cfg.enc), .int .i64 k] [] (fun r H' => r = .bool (c.has k) ∧ H' = []) := by
 have hall : c.all.length ≤ 4 := by have := ok.l4; unfold Ch.all; rw [List.length_append]; exact this
 have hfu := iplc_full (c := c) (k := k)
 generalize hi : iplc (c.all.map (·.nd)) k = i at hfu
 have hfu : (0 ≤ i ∧ i < c.cfg.n) ↔ c.has k = true := hfu
 refine Ct.mk' Tryz.func24 rfl rfl rfl (fun g R => ?_)
 try simp only [List.cons_append]
 simp only [List.nil_append]
 repeat' (first | refine go ?_ | (refine I.ld ?_; refine lA rfl ?_) | refine asg ?_ | refine bx rfl (fun _ => ?_) | fail)
 refine WX.call rfl (nodes_ct ok) rfl ?_
 rintro _ _ ⟨h1, hs1, rfl⟩
 simp only [List.cons_append, List.nil_append]
 repeat' (first | refine mv ?_ | fail)
 refine WX.callQ rfl (index_ct hs1.rs k (by rw [List.length_map]; omega)) rfl ?_
 rw [hi]
 by_cases h0 : 0 ≤ i
 ·by_cases hn : i < c.cfg.n
  ·have hh : c.has k = true := hfu.1 ⟨h0, hn⟩
   rw [hh]
   repeat' (first | refine go ?_ | refine mv ?_ | (refine I.ld ?_; refine ld rfl ?_) | refine asg ?_ | (refine I.gd ?_; first | refine gy ?_ | refine gT ?_) | (refine I.fa ?_; refine fa ?_) | (refine I.bin ?_; refine cm rfl rfl ?_) | (refine I.pk ?_; refine pT ?_) | fail)
   exact D.fin1 [] _ rfl rfl ⟨by simp [h0, hn], rfl⟩
  ·have hh : c.has k = false := by cases h : c.has k with | false => rfl | true => exact absurd (hfu.2 h).2 hn
   rw [hh]
   repeat' (first | refine go ?_ | refine mv ?_ | (refine I.ld ?_; refine ld rfl ?_) | refine asg ?_ | (refine I.gd ?_; first | refine gy ?_ | refine gT ?_) | (refine I.fa ?_; refine fa ?_) | (refine I.bin ?_; refine cm rfl rfl ?_) | (refine I.pk ?_; refine pT ?_) | fail)
   exact D.fin1 [] _ rfl rfl ⟨by simp [h0, hn], rfl⟩
 ·have hh : c.has k = false := by cases h : c.has k with | false => rfl | true => exact absurd (hfu.2 h).1 h0
  rw [hh]
  repeat' (first | refine go ?_ | refine mv ?_ | refine asg ?_ | (refine I.gd ?_; first | refine gn ?_ | refine gF ?_) | (refine I.bin ?_; refine cm rfl rfl ?_) | (refine I.pk ?_; refine pF ?_) | fail)
  exact D.fin1 [] _ rfl rfl ⟨by simp [h0], rfl⟩
end Go.Proofs.YtfcefidmdijjkaaGreat

namespace Go.Proofs.YtfcefidmdijjkaaGreat
open Go Go.Sl
structure Ad4 where
 (k dc rg nd : Int)
 deriving DecidableEq
def Ad4.enc (a : Ad4) : List Value := [.int .i64 a.k, .int .i64 a.dc, .int .i64 a.rg, .int .i64 a.nd]
structure Msg where
 kind : Int
 (fr to : Ad4)
 (ep ix ct op tr : Int)
 cf : Cfg
 en : Ent
 has : Bool
 (key val : ByteArray)
 (dead snap : Bool)
 (dp av : V9)
 (c0 c1 c2 code : Int)
 deriving DecidableEq
def Msg.enc (m : Msg) : List Value :=
 .int .i64 m.kind :: (m.fr.enc ++ (m.to.enc ++ ([.int .i64 m.ep, .int .i64 m.ix, .int .i64 m.ct, .int .i64 m.op, .int .i64 m.tr] ++ (m.cf.enc ++ (m.en.enc ++
  ([.bool m.has, .string m.key, .string m.val, .bool m.dead, .bool m.snap] ++ (m.dp.enc ++ (m.av.enc ++ [.int .i64 m.c0, .int .i64 m.c1, .int .i64 m.c2, .int .i64 m.code]))))))))
instance : Enc Msg := ⟨74, Msg.enc, fun _ => rfl, fun _ => rfl, by decide⟩
def Ad4.z : Ad4 := ⟨0, 0, 0, 0⟩
def Msg.z : Msg := ⟨0, Ad4.z, Ad4.z, 0, 0, 0, 0, 0, Cfg.z, Ent.z, false, ByteArray.empty, ByteArray.empty, false, false, V9.z, V9.z, 0, 0, 0, 0⟩
structure Mt where
 (dcs rn nn cl dc : Int)
 d : Nat
 up : Bool
 lg : Option Nat
 (c0 c1 c2 : Cfg)
 (w0 w1 w2 : Option Nat)
def ptrO (o : Option Nat) : Value := .pointer (o.map fun b => ⟨b, 0, none⟩)
def Mt.enc (m : Mt) : List Value :=
 [.int .i64 m.dcs, .int .i64 m.rn, .int .i64 m.nn, .int .i64 m.cl, .int .i64 m.dc, .pointer (some ⟨m.d, 0, none⟩), .bool m.up, ptrO m.lg] ++ (m.c0.enc ++ (m.c1.enc ++ (m.c2.enc ++ [ptrO m.w0, ptrO m.w1, ptrO m.w2])))
abbrev MtBk (b : Nat) (m : Mt) : Hp := [(b, .cells (List.toArray m.enc) 81 (0, 0))]
theorem between_ct (n a z : Int) : Ct Tryz.prog 25 [.int .i64 n, .int .i64 a, .int .i64 z] [] (fun r H' => r = .bool (decide (a ≤ n ∧ n ≤ z)) ∧ H' = []) := by
 refine Ct.mk' Tryz.func25 rfl rfl rfl (fun g R => ?_)
 try simp only [List.cons_append]
 simp only [List.nil_append]
 by_cases h0 : a ≤ n
 ·repeat' (first | refine go ?_ | refine mv ?_ | refine asg ?_ | (refine I.gd ?_; first | refine gy ?_ | refine gT ?_) | (refine I.bin ?_; refine cm rfl rfl ?_) | (refine I.pk ?_; refine pT ?_) | fail)
  exact D.fin1 [] _ rfl rfl ⟨by simp [h0], rfl⟩
 ·repeat' (first | refine go ?_ | refine mv ?_ | refine asg ?_ | (refine I.gd ?_; first | refine gn ?_ | refine gF ?_) | (refine I.bin ?_; refine cm rfl rfl ?_) | (refine I.pk ?_; refine pF ?_) | fail)
  exact D.fin1 [] _ rfl rfl ⟨by simp [h0], rfl⟩
theorem up_ct (b : Nat) (m : Mt) : Ct Tryz.prog 12 [.pointer (some ⟨b, 0, none⟩)] [MtBk b m] (fun r H' => r = .bool m.up ∧ H' = [MtBk b m]) := by
 refine Ct.mk' Tryz.func12 rfl rfl rfl (fun g R => ?_)
 try simp only [List.cons_append]
 simp only [List.nil_append]
 repeat' (first | refine go ?_ | refine mv ?_ | (refine I.ld ?_; refine ld rfl ?_) | refine asg ?_ | (refine I.fa ?_; refine fa ?_) | (refine I.nc ?_; refine nc ?_) | fail)
 exact D.fin1 [MtBk b m] _ rfl rfl ⟨rfl, rfl⟩
theorem ranged_ct (b : Nat) {m : Mt} (h1 : 1 ≤ m.rn) (h3 : m.rn ≤ 3) (r : Int) : Ct Tryz.prog 35 [.pointer (some ⟨b, 0, none⟩), .int .i64 r] [MtBk b m] (fun v H' => v = .bool (decide (m.up = true ∧ 0 ≤ r ∧ r < m.rn)) ∧ H' = [MtBk b m]) := by
 have hb := between_ct r 0 (m.rn - 1)
 refine Ct.mk' Tryz.func35 rfl rfl rfl (fun g R => ?_)
 try simp only [List.cons_append]
 simp only [List.nil_append]
 cases hu : m.up with
 | false =>
  repeat' (first | refine go ?_ | refine mv ?_ | (refine I.ld ?_; refine ld rfl ?_) | refine asg ?_ | (refine I.fa ?_; refine fa ?_) | (refine I.nc ?_; refine nc ?_) | fail)
  rw [hu]
  repeat' (first | refine go ?_ | refine asg ?_ | (refine I.gd ?_; refine gn ?_) | (refine I.pk ?_; refine pF ?_) | fail)
  exact D.fin1 [MtBk b m] _ rfl rfl ⟨by simp, rfl⟩
 | true =>
  repeat' (first | refine go ?_ | refine mv ?_ | (refine I.ld ?_; refine ld rfl ?_) | refine asg ?_ | (refine I.fa ?_; refine fa ?_) | (refine I.nc ?_; refine nc ?_) | fail)
  rw [hu]
  repeat' (first | refine mv ?_ | (refine I.ld ?_; refine ld rfl ?_) | (refine I.gd ?_; refine gy ?_) | (refine I.fa ?_; refine fa ?_) | (refine I.nc ?_; refine nc ?_) | (refine I.bin ?_; refine su ?_) | fail)
  refine WX.callQ rfl hb rfl ?_
  repeat' (first | refine go ?_ | refine asg ?_ | (refine I.pk ?_; refine pT ?_) | fail)
  exact D.fin1 [MtBk b m] _ rfl rfl ⟨by congr 1; rw [decide_eq_decide]; constructor <;> intro h <;> (first | (refine ⟨rfl, ?_, ?_⟩ <;> omega) | omega), rfl⟩
end Go.Proofs.YtfcefidmdijjkaaGreat

namespace Go.Proofs.YtfcefidmdijjkaaGreat
open Go Go.Sl
theorem wfold_fine {vs : List Value} : ∀ {its : List It} {C : Cd}, (∀ it ∈ its, ∃ u e, vs[it.o]? = some u ∧ encI it u = some e ∧ longI it u = false) →
  (its.foldl (wstep vs) C).arg = C.arg ∧ (its.foldl (wstep vs) C).long = C.long := by
 intro its
 induction its with
 | nil => intro C _; exact ⟨rfl, rfl⟩
 | cons it r ih =>
  intro C h
  obtain ⟨u, e, h1, h2, h3⟩ := h it (List.mem_cons_self ..)
  obtain ⟨h4, h5⟩ := ih (C := wstep vs C it) (fun x hx => h x (List.mem_cons_of_mem _ hx))
  rw [List.foldl_cons, h4, h5]
  unfold wstep
  rw [h1]
  simp [h2, h3]
def recE (r : Nat) (c : Cfg) : Rec := ⟨2, Ent.z, c, (r : Int)⟩
def N62 (n : Int) : Prop := 0 ≤ n ∧ n ≤ 4611686018427387904
structure CfgN (c : Cfg) : Prop where
 ep : N62 c.ep
 n : N62 c.n
 a0 : N62 c.f0.nd
 b0 : N62 c.f0.sn
 a1 : N62 c.f1.nd
 b1 : N62 c.f1.sn
 a2 : N62 c.f2.nd
 b2 : N62 c.f2.sn
 a3 : N62 c.f3.nd
 b3 : N62 c.f3.sn
 al : N62 c.le.nd
 bl : N62 c.le.sn
theorem encI_62 {o : Nat} {n : Int} (h : N62 n) : encI (.num o) (.int .i64 n) = some (encN n.toNat) := by
 rw [encI_num, if_neg (by have := h.1; have := h.2; omega)]
theorem recE_code {r : Nat} {c : Cfg} (hr : r ≤ 1000) (h : CfgN c) : (recE r c).code = 0 := by
 have hb : (recE r c).bare = recE r c := rfl
 have hk : (recE r c).known = true := rfl
 have hr62 : N62 (r : Int) := ⟨by omega, by omega⟩
 have key : ∀ it ∈ Rec.its (recE r c).k, ∃ u e, (recE r c).enc[it.o]? = some u ∧ encI it u = some e ∧ longI it u = false := by
  intro it hit
  have hl : Rec.its (recE r c).k = [.num 0, .num 21, .num 22, .num 23, .num 24, .num 25, .num 26, .num 27, .num 28, .num 29, .num 30, .tru 31, .num 32, .num 33, .num 34] := rfl
  rw [hl] at hit
  simp only [List.mem_cons, List.not_mem_nil, or_false] at hit
  rcases hit with rfl | rfl | rfl | rfl | rfl | rfl | rfl | rfl | rfl | rfl | rfl | rfl | rfl | rfl | rfl
  ·exact ⟨_, _, rfl, encI_62 (n := 2) ⟨by decide, by decide⟩, rfl⟩
  ·exact ⟨_, _, rfl, encI_62 h.ep, rfl⟩
  ·exact ⟨_, _, rfl, encI_62 h.n, rfl⟩
  ·exact ⟨_, _, rfl, encI_62 h.a0, rfl⟩
  ·exact ⟨_, _, rfl, encI_62 h.b0, rfl⟩
  ·exact ⟨_, _, rfl, encI_62 h.a1, rfl⟩
  ·exact ⟨_, _, rfl, encI_62 h.b1, rfl⟩
  ·exact ⟨_, _, rfl, encI_62 h.a2, rfl⟩
  ·exact ⟨_, _, rfl, encI_62 h.b2, rfl⟩
  ·exact ⟨_, _, rfl, encI_62 h.a3, rfl⟩
  ·exact ⟨_, _, rfl, encI_62 h.b3, rfl⟩
  ·exact ⟨_, _, rfl, rfl, rfl⟩
  ·exact ⟨_, _, rfl, encI_62 h.al, rfl⟩
  ·exact ⟨_, _, rfl, encI_62 h.bl, rfl⟩
  ·exact ⟨_, _, rfl, encI_62 hr62, rfl⟩
 obtain ⟨h1, h2⟩ := wfold_fine (C := {}) key
 have h3 : (recE r c).w.arg = ((((Rec.its (recE r c).k).foldl (wstep (recE r c).enc) {}).arg || !(recE r c).known) || !decide ((recE r c).bare = recE r c)) := rfl
 have h4 : (recE r c).w.long = ((Rec.its (recE r c).k).foldl (wstep (recE r c).enc) {}).long := rfl
 rw [h1, hk, hb, decide_eq_true rfl] at h3
 rw [h2] at h4
 unfold Rec.code frRes
 rw [if_neg (by rw [h3]; decide), if_neg (by rw [h4]; decide)]
theorem Ch.cfgN {c : Ch} (ok : ChOk c) : CfgN c.cfg := by
 have e1 := ok.e1; have e2 := ok.e2
 have hz : ∀ k, N62 (c.ms.getD k Mem.z).nd ∧ N62 (c.ms.getD k Mem.z).sn := fun k => by
  rw [List.getD_eq_getElem?_getD]
  cases h : c.ms[k]? with
  | none => exact ⟨⟨by decide, by decide⟩, by decide, by decide⟩
  | some m =>
   have := ok.rg m (List.mem_append_left _ (List.mem_of_getElem? h))
   exact ⟨⟨by simp only [Option.getD_some]; omega, by simp only [Option.getD_some]; omega⟩, by simp only [Option.getD_some]; omega, by simp only [Option.getD_some]; omega⟩
 have hl : N62 (c.ln.getD Mem.z).nd ∧ N62 (c.ln.getD Mem.z).sn := by
  cases h : c.ln with
  | none => exact ⟨⟨by decide, by decide⟩, by decide, by decide⟩
  | some m =>
   have := ok.rg m (List.mem_append_right _ (by rw [h]; simp))
   exact ⟨⟨by simp only [Option.getD_some]; omega, by simp only [Option.getD_some]; omega⟩, by simp only [Option.getD_some]; omega, by simp only [Option.getD_some]; omega⟩
 have h4 := ok.l4
 exact ⟨⟨by show 0 ≤ c.ep; omega, by show c.ep ≤ _; omega⟩, ⟨by show (0 : Int) ≤ (c.ms.length : Int); omega, by show (c.ms.length : Int) ≤ _; omega⟩,
  (hz 0).1, (hz 0).2, (hz 1).1, (hz 1).2, (hz 2).1, (hz 2).2, (hz 3).1, (hz 3).2, hl.1, hl.2⟩
structure MLog (l : List Lf) : Prop where
 ok : LOk l
 full : ∀ f ∈ l, f.full = f
 nums : ∀ (i : Nat) (f : Lf), l[i]? = some f → f.n = (i : Int)
 ne : ∀ f ∈ l, f.rs ≠ []
 kind : ∀ r ∈ recs l, r.k = 2
theorem MLog.nil : MLog [] := ⟨LOk.nil, by simp, by simp, by simp, by simp [recs]⟩
def layL (l : List Lf) (r : Nat) (c : Cfg) : List Lf := lsync (ladd1 l (recE r c)).1
theorem ladd_1 {l : List Lf} {r : Rec} : ladd l [r] = ladd1 l r := by
 unfold ladd
 split
 ·rfl
 ·rename_i h
  unfold ladd
  exact Prod.ext rfl (by simpa using Eq.symm (Classical.not_not.1 h))
theorem recs_sync (l : List Lf) : recs (lsync l) = recs l := by
 unfold recs lsync
 rw [List.map_map]
 rfl
theorem lay_log {l : List Lf} (h : MLog l) {r : Nat} (hr : r ≤ 1000) {c : Cfg} (hc : CfgN c) (hroom : roomB l 1 = true) :
  (ladd1 l (recE r c)).2 = 0 ∧ MLog (layL l r c) ∧ recs (layL l r c) = recs l ++ [recE r c] := by
 have hcode := recE_code hr hc
 have hle := (Rec.good hcode).fr_le
 have hrm : l.length < 63 ∧ ((dk l).used : Int) < 1048576 - 512 := by
  unfold roomB at hroom
  have := of_decide_eq_true hroom
  exact ⟨this.2.2.1, by have := this.2.2.2; omega⟩
 have hok : LOk (layL l r c) := (h.ok.add1 (recE r c)).sync
 have key : (ladd1 l (recE r c)).2 = 0 ∧ recs (ladd1 l (recE r c)).1 = recs l ++ [recE r c] ∧ (∀ (i : Nat) (f : Lf), (ladd1 l (recE r c)).1[i]? = some f → f.n = (i : Int)) ∧ ∀ f ∈ (ladd1 l (recE r c)).1, f.rs ≠ [] := by
  unfold ladd1
  rw [if_neg (by simpa using hcode)]
  rcases List.eq_nil_or_concat l with rfl | ⟨pre, f, rfl⟩
  ·refine ⟨rfl, rfl, fun i f hi => ?_, by simp⟩
   cases i with
   | zero => cases hi; rfl
   | succ i => simp at hi
  ·rw [List.concat_eq_append] at h hrm ⊢
   simp only [List.getLast?_concat, List.dropLast_concat]
   have hn : f.n = (pre.length : Int) := h.nums pre.length f (by simp)
   have hll : (pre ++ [f]).length = pre.length + 1 := by simp
   by_cases h4 : 4096 ≤ (bytes f.rs).length
   ·rw [if_pos h4, if_neg (by omega)]
    refine ⟨rfl, by rw [recs_app, recs_one], fun i x hi => ?_, fun x hx => ?_⟩
    rotate_left
    ·rcases List.mem_append.1 hx with hx | hx
     ·exact h.ne x hx
     ·rw [List.mem_singleton.1 hx]; simp
    rcases Nat.lt_or_ge i (pre ++ [f]).length with hlt | hge
    ·rw [List.getElem?_append_left hlt] at hi; exact h.nums i x hi
    ·rw [List.getElem?_append_right hge] at hi
     have hi0 : i - (pre ++ [f]).length = 0 := by
      have := (List.getElem?_eq_some_iff.1 hi).1
      simp only [List.length_cons, List.length_nil] at this; omega
     rw [hi0] at hi
     cases hi
     show f.n + 1 = (i : Int)
     omega
   ·rw [if_neg h4, if_neg (by omega)]
    refine ⟨rfl, by rw [recs_app, recs_app, recs_one, recs_one, List.append_assoc], fun i x hi => ?_, fun x hx => ?_⟩
    rotate_left
    ·rcases List.mem_append.1 hx with hx | hx
     ·exact h.ne x (List.mem_append_left _ hx)
     ·rw [List.mem_singleton.1 hx]; simp
    rcases Nat.lt_or_ge i pre.length with hlt | hge
    ·rw [List.getElem?_append_left hlt] at hi
     exact h.nums i x (by rw [List.getElem?_append_left hlt]; exact hi)
    ·rw [List.getElem?_append_right hge] at hi
     have hi0 : i - pre.length = 0 := by
      have := (List.getElem?_eq_some_iff.1 hi).1
      simp only [List.length_cons, List.length_nil] at this; omega
     rw [hi0] at hi
     cases hi
     show f.n = (i : Int)
     omega
 obtain ⟨k1, k2, k3, k4⟩ := key
 have hrec : recs (layL l r c) = recs l ++ [recE r c] := by unfold layL; rw [recs_sync, k2]
 refine ⟨k1, ⟨hok, fun f hf => ?_, fun i f hi => ?_, fun f hf => ?_, fun x hx => ?_⟩, hrec⟩
 ·unfold layL lsync at hf
  obtain ⟨y, _, rfl⟩ := List.mem_map.1 hf
  rfl
 ·unfold layL lsync at hi
  rw [List.getElem?_map] at hi
  cases hy : (ladd1 l (recE r c)).1[i]? with
  | none => rw [hy] at hi; cases hi
  | some y => rw [hy] at hi; cases hi; exact k3 i y hy
 ·unfold layL lsync at hf
  obtain ⟨y, hy, rfl⟩ := List.mem_map.1 hf
  exact k4 y hy
 ·rw [hrec] at hx
  rcases List.mem_append.1 hx with hx | hx
  ·exact h.kind x hx
  ·rw [List.mem_singleton.1 hx]; rfl
theorem outF_kind {rs : List Rec} (h : ∀ r ∈ rs, r.k = 2) : outF rs = rs := by
 have key : ∀ (rs o : List Rec), (∀ r ∈ rs, r.k = 2) → rs.foldl (fun o r => if r.k = 3 then [] else o ++ [r]) o = o ++ rs := by
  intro rs
  induction rs with
  | nil => intro o _; simp
  | cons r t ih =>
   intro o h
   have h2 := h r (List.mem_cons_self ..)
   rw [List.foldl_cons, if_neg (by omega), ih _ (fun x hx => h x (List.mem_cons_of_mem _ hx)), List.append_assoc]
   rfl
 have := key rs [] h
 simpa [outF] using this
def rep (rs : List Rec) (i : Nat) : Cfg := rs.foldl (fun c r => if r.base = (i : Int) then r.c else c) Cfg.z
theorem rep_snoc (rs : List Rec) (x : Rec) (i : Nat) : rep (rs ++ [x]) i = if x.base = (i : Int) then x.c else rep rs i := by unfold rep; rw [List.foldl_append]; rfl
theorem rep_lay (rs : List Rec) (r i : Nat) (c : Cfg) : rep (rs ++ [recE r c]) i = if i = r then c else rep rs i := by
 rw [rep_snoc]
 by_cases h : i = r
 ·rw [if_pos h, if_pos (by show (r : Int) = (i : Int); omega)]; rfl
 ·rw [if_neg h, if_neg (by show ¬ (r : Int) = (i : Int); omega)]
theorem MLog.len {l : List Lf} (h : MLog l) : l.length ≤ (recs l).length := by
 have key : ∀ l : List Lf, (∀ f ∈ l, f.rs ≠ []) → l.length ≤ (recs l).length := by
  intro l
  induction l with
  | nil => intro _; exact Nat.zero_le _
  | cons f t ih =>
   intro hn
   have h1 := ih fun x hx => hn x (List.mem_cons_of_mem _ hx)
   have h2 := List.length_pos_iff.2 (hn f (List.mem_cons_self ..))
   rw [show f :: t = [f] ++ t from rfl, recs_app, recs_one, List.length_append, List.length_append, List.length_singleton]
   omega
 exact key l h.ne
theorem MLog.used {l : List Lf} (h : MLog l) : (dk l).used ≤ 243 * (recs l).length := by
 have key : ∀ l : List Lf, (∀ f ∈ l, ∀ r ∈ f.rs, r.code = 0) → (dk l).used ≤ 243 * (recs l).length := by
  intro l
  induction l with
  | nil => intro _; exact Nat.le_refl _
  | cons f t ih =>
   intro hg
   have h1 := ih fun x hx => hg x (List.mem_cons_of_mem _ hx)
   have h2 : ∀ rs : List Rec, (∀ r ∈ rs, r.code = 0) → (bytes rs).length ≤ 243 * rs.length := by
    intro rs
    induction rs with
    | nil => intro _; exact Nat.le_refl _
    | cons r t ih =>
     intro hr
     have := (Rec.good (hr r (List.mem_cons_self ..))).fr_le
     have := ih fun x hx => hr x (List.mem_cons_of_mem _ hx)
     rw [bytes_cons, List.length_append, List.length_cons]; omega
   have h3 := h2 f.rs (hg f (List.mem_cons_self ..))
   rw [show f :: t = [f] ++ t from rfl, recs_app, recs_one, List.length_append]
   rw [dk_used] at h1 ⊢
   rw [List.map_append, List.sum_append]
   simp only [List.map_cons, List.map_nil, List.sum_cons, List.sum_nil]
   omega
 exact key l h.ok.good
theorem room_few {l : List Lf} (h : MLog l) (hf : (recs l).length ≤ 62) : roomB l 1 = true := by
 have h1 := h.len
 have h2 := h.used
 unfold roomB
 exact decide_eq_true ⟨by decide, by decide, by omega, by omega⟩
end Go.Proofs.YtfcefidmdijjkaaGreat

namespace Go.Proofs.YtfcefidmdijjkaaGreat
open Go Go.Sl
def WAt (T b : Nat) (xs : List Int) (h : Hp) : Prop := ∃ v hv, h = (b, .cells (List.toArray [v]) T (0, 0)) :: hv ∧ IsSl 3 xs v hv
def heard1 (xs : List Int) (i : Int) : List Int := if 0 ≤ i ∧ i < xs.length then xs.set i.toNat 0 else xs
def heardL (xs is : List Int) : List Int := is.foldl heard1 xs
def tick1 (s : Int) : Int := if 1099511627776 < s + 1 then 1099511627776 else s + 1
def tickL (xs : List Int) : List Int := xs.map tick1
theorem heard1_len (xs : List Int) (i : Int) : (heard1 xs i).length = xs.length := by unfold heard1; split <;> simp
theorem heardL_len (xs is : List Int) : (heardL xs is).length = xs.length := by
 unfold heardL
 induction is generalizing xs with
 | nil => rfl
 | cons i r ih => rw [List.foldl_cons, ih, heard1_len]
theorem heardL_snoc {xs is : List Int} {k : Nat} {i : Int} (h : is[k]? = some i) : heardL xs (is.take (k + 1)) = heard1 (heardL xs (is.take k)) i := by
 unfold heardL
 rw [List.take_add_one, h]
 simp [List.foldl_append]
theorem has_ct {b : Nat} {xs : List Int} {h : Hp} (hw : WAt 146 b xs h) (i : Int) :
  Ct Tryz.prog 89 [.pointer (some ⟨b, 0, none⟩), .int .i64 i] [h] (fun v H' => v = .bool (decide (0 ≤ i ∧ i < xs.length)) ∧ H' = [h]) := by
 obtain ⟨v, hv, rfl, hs⟩ := hw
 have hr := hs.rs
 refine Ct.mk' Tryz.func89 rfl rfl rfl (fun g R => ?_)
 try simp only [List.cons_append]
 simp only [List.nil_append]
 repeat' (first | refine go ?_ | refine mv ?_ | (refine I.ld ?_; refine ld rfl ?_) | refine asg ?_ | (refine I.gd ?_; first | refine gy ?_ | refine gn ?_ | refine gS (fun _ => ?_) (fun _ => ?_)) | (refine I.fa ?_; refine fa ?_) | (refine I.nc ?_; refine nc ?_) | (refine I.bin ?_; refine cm rfl rfl ?_) | (refine I.pk ?_; first | refine pT ?_ | refine pF ?_) | (refine I.bi ?_; refine ln rfl (by assumption) ?_) | fail)
 ·exact D.fin1 [_] _ rfl rfl ⟨by simp [*], rfl⟩
 ·exact D.fin1 [_] _ rfl rfl ⟨by simp [*], rfl⟩
theorem heard_ct {b : Nat} {xs is : List Int} {u : Value} {h hi : Hp} (hw : WAt 146 b xs h) (hs : Rs is u hi) (hb : is.length ≤ 1000000) :
  Ct Tryz.prog 50 [.pointer (some ⟨b, 0, none⟩), u] [h, hi] (fun v H' => v = .tuple #[] ∧ ∃ h', H' = [h', hi] ∧ WAt 146 b (heardL xs is) h') := by
 refine Ct.mk' Tryz.func50 rfl rfl rfl (fun g R => ?_)
 try simp only [List.cons_append]
 simp only [List.nil_append]
 repeat' (first | refine go ?_ | refine mv ?_ | (refine I.bi ?_; refine ln rfl (by assumption) ?_) | fail)
 refine W.loop (α := Nat × Hp) (fun x => x.1 ≤ is.length ∧ WAt 146 b (heardL xs (is.take x.1)) x.2)
  (fun x => [(0, .pointer (some ⟨b, 0, none⟩)), (6, u), (7, .int .i64 is.length), (8, .int .i64 (x.1 : Int))]) (fun x => [x.2, hi, R]) (fun x => is.length - x.1) (0, h) ⟨by omega, by simpa [heardL] using hw⟩ (by repeat (first | exact Fsub.nil | refine Fsub.cons rfl ?_)) (Hsub.of_picks inferInstance) ?_
 rintro ⟨k, h'⟩ ⟨hk, hw'⟩
 simp only []
 by_cases hlt : k < is.length
 ·obtain ⟨i, hki⟩ : ∃ i, is[k]? = some i := ⟨_, List.getElem?_eq_getElem hlt⟩
  repeat' (first | refine go ?_ | refine mv ?_ | (refine I.ld ?_; refine lE rfl (by assumption) ?_) | refine asg ?_ | (refine I.bin ?_; refine cm rfl rfl ?_) | (refine I.cond ?_; refine cP ?_) | (refine I.ix ?_; refine ix rfl rfl ?_) | fail)
  refine WX.callQ rfl (has_ct hw' i) rfl ?_
  obtain ⟨v, hv, rfl, hs'⟩ := hw'
  have hr' := hs'.rs
  by_cases hc : 0 ≤ i ∧ i < (heardL xs (is.take k)).length
  ·obtain ⟨h0, h1⟩ := hc
   obtain ⟨y, hy⟩ : ∃ y, (heardL xs (is.take k))[i.toNat]? = some y := ⟨_, List.getElem?_eq_getElem (by omega)⟩
   have hc : 0 ≤ i ∧ i < (heardL xs (is.take k)).length := ⟨h0, h1⟩
   repeat' (first | refine go ?_ | refine mv ?_ | (refine I.ld ?_; refine ld rfl ?_) | (refine I.fa ?_; refine fa ?_) | (refine I.nc ?_; refine nc ?_) | (refine I.cond ?_; refine cP ?_) | (refine I.ix ?_; refine iI rfl rfl ?_) | fail)
   refine WX.storeE (y' := 0) rfl rfl rfl hs' hy rfl rfl rfl rfl rfl (fun h2 hs2 => ?_)
   repeat' (first | refine go ?_ | refine mv ?_ | (refine I.bin ?_; refine ad ?_) | fail)
   refine D.round (k + 1, (b, .cells (List.toArray [v]) 146 (0, 0)) :: h2) ⟨by simp only []; omega, ?_⟩ (by simp only []; omega) (by repeat (first | exact Fsub.nil | refine Fsub.cons rfl ?_)) (Hsub.of_picks inferInstance)
   simp only []
   rw [heardL_snoc hki, heard1, if_pos hc]
   exact ⟨_, _, rfl, hs2⟩
  ·repeat' (first | refine go ?_ | refine mv ?_ | (refine I.bin ?_; refine ad ?_) | (refine I.cond ?_; refine cN ?_) | fail)
   refine D.round (k + 1, (b, .cells (List.toArray [v]) 146 (0, 0)) :: hv) ⟨by simp only []; omega, ?_⟩ (by simp only []; omega) (by repeat (first | exact Fsub.nil | refine Fsub.cons rfl ?_)) (Hsub.of_picks inferInstance)
   simp only []
   rw [heardL_snoc hki, heard1, if_neg hc]
   exact ⟨_, _, rfl, hs'⟩
 ·repeat' (first | refine go ?_ | (refine I.bin ?_; refine cm rfl rfl ?_) | (refine I.cond ?_; refine cN ?_) | fail)
  obtain rfl : k = is.length := by simp only [] at hk; omega
  exact D.finE [_, _] _ rfl ⟨rfl, _, rfl, by simpa using hw'⟩
def mapTo (f : Int → Int) (xs : List Int) (k : Nat) : List Int := (xs.take k).map f ++ xs.drop k
theorem mapTo_len (f : Int → Int) (xs : List Int) (k : Nat) : (mapTo f xs k).length = xs.length := by simp [mapTo]; omega
theorem mapTo_get {f : Int → Int} {xs : List Int} {k : Nat} {x : Int} (h : xs[k]? = some x) : (mapTo f xs k)[k]? = some x := by
 have hlt := (List.getElem?_eq_some_iff.1 h).1
 rw [mapTo, List.getElem?_append_right (by simp; omega)]
 simp [Nat.min_eq_left (Nat.le_of_lt hlt), h]
theorem mapTo_set {f : Int → Int} {xs : List Int} {k : Nat} {x : Int} (h : xs[k]? = some x) : (mapTo f xs k).set k (f x) = mapTo f xs (k + 1) := by
 have hlt := (List.getElem?_eq_some_iff.1 h).1
 have hx := (List.getElem?_eq_some_iff.1 h).2
 have hl : ((xs.take k).map f).length = k := by simp; omega
 rw [mapTo, mapTo, List.take_add_one, h, List.set_append_right _ _ (by omega), hl, Nat.sub_self, List.drop_eq_getElem_cons hlt, hx]
 simp only [List.set_cons_zero, List.map_append, Option.toList, List.map_cons, List.map_nil, List.append_assoc, List.cons_append, List.nil_append]
theorem mapTo_all (f : Int → Int) (xs : List Int) : mapTo f xs xs.length = xs.map f := by simp [mapTo]
def Wok (xs : List Int) : Prop := xs.length ≤ 64 ∧ ∀ s ∈ xs, 0 ≤ s ∧ s ≤ 1099511627776
theorem Wok.tick {xs : List Int} (h : Wok xs) : Wok (tickL xs) := ⟨by simpa [tickL] using h.1, fun s hs => by
 obtain ⟨x, hx, rfl⟩ := List.mem_map.1 hs
 have := h.2 x hx
 unfold tick1; split <;> omega⟩
theorem Wok.heard {xs : List Int} (h : Wok xs) (is : List Int) : Wok (heardL xs is) := by
 refine ⟨by rw [heardL_len]; exact h.1, ?_⟩
 unfold heardL
 have key : ∀ (is xs : List Int), (∀ s ∈ xs, 0 ≤ s ∧ s ≤ 1099511627776) → ∀ s ∈ is.foldl heard1 xs, 0 ≤ s ∧ s ≤ 1099511627776 := by
  intro is
  induction is with
  | nil => intro xs h; exact h
  | cons i r ih =>
   intro xs h
   refine ih _ fun s hs => ?_
   unfold heard1 at hs
   split at hs
   ·rcases List.mem_or_eq_of_mem_set hs with h1 | h1
    ·exact h s h1
    ·omega
   ·exact h s hs
 exact key is xs h.2
theorem tick_ct {b : Nat} {xs : List Int} {h : Hp} (hw : WAt 146 b xs h) (ok : Wok xs) :
  Ct Tryz.prog 54 [.pointer (some ⟨b, 0, none⟩)] [h] (fun v H' => v = .tuple #[] ∧ ∃ h', H' = [h'] ∧ WAt 146 b (tickL xs) h') := by
 obtain ⟨v, hv, rfl, hs⟩ := hw
 have hr := hs.rs
 have hl := ok.1
 refine Ct.mk' Tryz.func54 rfl rfl rfl (fun g R => ?_)
 try simp only [List.cons_append]
 simp only [List.nil_append]
 repeat' (first | refine go ?_ | refine mv ?_ | (refine I.ld ?_; refine ld rfl ?_) | (refine I.fa ?_; refine fa ?_) | (refine I.nc ?_; refine nc ?_) | (refine I.bi ?_; refine ln rfl (by assumption) ?_) | fail)
 refine W.loop (α := Nat × Hp) (fun x => x.1 ≤ xs.length ∧ IsSl 3 (mapTo tick1 xs x.1) v x.2)
  (fun x => [(0, .pointer (some ⟨b, 0, none⟩)), (7, .int .i64 xs.length), (8, .int .i64 (x.1 : Int))]) (fun x => [[(b, .cells (List.toArray [v]) 146 (0, 0))], x.2, R]) (fun x => xs.length - x.1) (0, hv) ⟨by omega, by simpa [mapTo] using hs⟩ (by repeat (first | exact Fsub.nil | refine Fsub.cons rfl ?_)) (Hsub.of_picks inferInstance) ?_
 rintro ⟨k, h'⟩ ⟨hk, hw'⟩
 clear hr
 simp only [] at hk hw' ⊢
 have hr' := hw'.rs
 by_cases hlt : k < xs.length
 ·obtain ⟨x, hx⟩ : ∃ x, xs[k]? = some x := ⟨_, List.getElem?_eq_getElem hlt⟩
  have hx' := mapTo_get (f := tick1) hx
  have hb := ok.2 x (List.mem_of_getElem? hx)
  repeat' (first | refine go ?_ | refine mv ?_ | refine asg ?_ | (refine I.bin ?_; refine cm rfl rfl ?_) | (refine I.cond ?_; refine cP ?_) | fail)
  refine W.mix (List.replicate 15 true) [[(b, .cells (List.toArray [v]) 146 (0, 0))], h'] Tryz.mix (by kernel_rfl) ?_
  repeat' (first | refine go ?_ | refine mv ?_ | (refine I.ld ?_; first | refine ld rfl ?_ | refine lE rfl (by assumption) ?_) | (refine I.fa ?_; refine fa ?_) | (refine I.nc ?_; refine nc ?_) | (refine I.bin ?_; refine ad ?_) | refine mN ?_ | refine mU ?_ | (refine I.bi ?_; refine mi ?_) | (refine I.ix ?_; refine ix rfl rfl ?_) | fail)
  refine WX.storeE (y' := tick1 x) rfl rfl rfl hw' hx' rfl rfl rfl rfl rfl (fun h2 hs2 => ?_)
  rw [mapTo_set hx] at hs2
  repeat' (first | refine go ?_ | refine mv ?_ | (refine I.bin ?_; refine ad ?_) | fail)
  exact D.round (k + 1, h2) ⟨by simp only []; omega, hs2⟩ (by simp only []; omega) (by repeat (first | exact Fsub.nil | refine Fsub.cons rfl ?_)) (Hsub.of_picks inferInstance)
 ·repeat' (first | refine go ?_ | (refine I.bin ?_; refine cm rfl rfl ?_) | (refine I.cond ?_; refine cN ?_) | fail)
  obtain rfl : k = xs.length := by omega
  rw [mapTo_all] at hw'
  exact D.finE [(b, .cells (List.toArray [v]) 146 (0, 0)) :: h'] _ rfl ⟨rfl, _, rfl, v, h', rfl, hw'⟩
theorem silence_ct {b : Nat} {xs : List Int} {h : Hp} (hw : WAt 146 b xs h) (i : Int) :
  Ct Tryz.prog 57 [.pointer (some ⟨b, 0, none⟩), .int .i64 i] [h] (fun v H' => v = .int .i64 (if 0 ≤ i ∧ i < xs.length then xs.getD i.toNat 0 else 0) ∧ H' = [h]) := by
 have hc := has_ct hw i
 obtain ⟨v, hv, rfl, hs⟩ := hw
 have hr := hs.rs
 refine Ct.mk' Tryz.func57 rfl rfl rfl (fun g R => ?_)
 try simp only [List.cons_append]
 simp only [List.nil_append]
 by_cases hin : 0 ≤ i ∧ i < xs.length
 ·have hx : xs[i.toNat]? = some (xs.getD i.toNat 0) := by rw [List.getD_eq_getElem?_getD, List.getElem?_eq_getElem (by omega)]; rfl
  repeat' (first | refine go ?_ | refine mv ?_ | (refine I.ld ?_; first | refine ld rfl ?_ | refine lE rfl (by assumption) ?_) | refine asg ?_ | (refine I.fa ?_; refine fa ?_) | (refine I.nc ?_; refine nc ?_) | (refine I.cond ?_; refine cN ?_) | (refine I.ix ?_; refine iI rfl rfl ?_) | (refine I.un ?_; refine nD ?_) | refine WX.callQ rfl hc rfl ?_ | fail)
  exact D.fin1 [_] _ rfl rfl ⟨by rw [if_pos hin], rfl⟩
 ·repeat' (first | refine go ?_ | refine mv ?_ | refine asg ?_ | (refine I.cond ?_; refine cP ?_) | (refine I.un ?_; refine nD ?_) | refine WX.callQ rfl hc rfl ?_ | fail)
  exact D.fin1 [_] _ rfl rfl ⟨by rw [if_neg hin], rfl⟩
def silK (xs : List Int) (lim : Int) (k : Nat) : List Int := ((List.range k).filter fun i => decide (lim ≤ xs.getD i 0)).map Int.ofNat
def silL (xs : List Int) (lim : Int) : List Int := silK xs lim xs.length
theorem silK_len (xs : List Int) (lim : Int) (k : Nat) : (silK xs lim k).length ≤ k := by
 unfold silK; rw [List.length_map]; have := List.length_filter_le (fun i => decide (lim ≤ xs.getD i 0)) (List.range k); simpa using this
theorem silK_succ {xs : List Int} {lim : Int} {k : Nat} {x : Int} (h : xs[k]? = some x) : silK xs lim (k + 1) = if lim ≤ x then silK xs lim k ++ [(k : Int)] else silK xs lim k := by
 unfold silK
 rw [List.range_succ, List.filter_append]
 by_cases hx : lim ≤ x <;> simp [h, hx]
theorem silent_ct {b : Nat} {xs : List Int} {h : Hp} (hw : WAt 146 b xs h) (hl : xs.length ≤ 64) (lim : Int) :
  Ct Tryz.prog 55 [.pointer (some ⟨b, 0, none⟩), .int .i64 lim] [h] (fun v H' => ∃ h', H' = [h, h'] ∧ IsSl 3 (silL xs lim) v h') := by
 obtain ⟨v, hv, rfl, hs⟩ := hw
 have hr := hs.rs
 refine Ct.mk' Tryz.func55 rfl rfl rfl (fun g R => ?_)
 try simp only [List.cons_append]
 simp only [List.nil_append]
 repeat' (first | refine go ?_ | refine mv ?_ | (refine I.ld ?_; refine ld rfl ?_) | refine asg ?_ | (refine I.fa ?_; refine fa ?_) | (refine I.nc ?_; refine nc ?_) | (refine I.bi ?_; refine ln rfl (by assumption) ?_) | fail)
 refine W.loop (α := Nat × Value × Hp) (fun x => x.1 ≤ xs.length ∧ IsSl 3 (silK xs lim x.1) x.2.1 x.2.2)
  (fun x => [(1, .int .i64 lim), (5, x.2.1), (11, v), (12, .int .i64 xs.length), (13, .int .i64 (x.1 : Int))]) (fun x => [x.2.2, [(b, .cells (List.toArray [v]) 146 (0, 0))], hv, R]) (fun x => xs.length - x.1)
  (0, .slice none 0 0, []) ⟨by omega, by simpa [silK] using IsSl.nil (α := Int) 3⟩ (by repeat (first | exact Fsub.nil | refine Fsub.cons rfl ?_)) (Hsub.of_picks inferInstance) ?_
 rintro ⟨k, u, h'⟩ ⟨hk, hu⟩
 simp only [] at hk hu ⊢
 have hkl := silK_len xs lim k
 by_cases hlt : k < xs.length
 ·obtain ⟨x, hx⟩ : ∃ x, xs[k]? = some x := ⟨_, List.getElem?_eq_getElem hlt⟩
  by_cases hc : lim ≤ x
  ·repeat' (first | refine go ?_ | refine mv ?_ | (refine I.ld ?_; refine lE rfl (by assumption) ?_) | refine asg ?_ | (refine I.bin ?_; refine cm rfl rfl ?_) | (refine I.cond ?_; refine cP ?_) | (refine I.ix ?_; refine ix rfl rfl ?_) | fail)
   refine WX.lit (ys := [(k : Int)]) rfl rfl rfl rfl rfl rfl (by decide) rfl (fun v1 h1 hs1 => ?_)
   refine WX.app rfl rfl hu hs1.rs rfl rfl (by decide) (by simp only [List.length_cons, List.length_nil]; omega) rfl (fun v2 h2 hs2 => ?_)
   repeat' (first | refine go ?_ | refine mv ?_ | refine asg ?_ | (refine I.bin ?_; refine ad ?_) | fail)
   exact D.round (k + 1, v2, h2) ⟨by simp only []; omega, by simp only []; rw [silK_succ hx, if_pos hc]; exact hs2⟩ (by simp only []; omega) (by repeat (first | exact Fsub.nil | refine Fsub.cons rfl ?_)) (Hsub.of_picks inferInstance)
  ·repeat' (first | refine go ?_ | refine mv ?_ | (refine I.ld ?_; refine lE rfl (by assumption) ?_) | refine asg ?_ | (refine I.bin ?_; first | refine cm rfl rfl ?_ | refine ad ?_) | (refine I.cond ?_; first | refine cP ?_ | refine cN ?_) | (refine I.ix ?_; refine ix rfl rfl ?_) | fail)
   exact D.round (k + 1, u, h') ⟨by simp only []; omega, by simp only []; rw [silK_succ hx, if_neg hc]; exact hu⟩ (by simp only []; omega) (by repeat (first | exact Fsub.nil | refine Fsub.cons rfl ?_)) (Hsub.of_picks inferInstance)
 ·repeat' (first | refine go ?_ | refine mv ?_ | refine asg ?_ | (refine I.bin ?_; refine cm rfl rfl ?_) | (refine I.cond ?_; refine cN ?_) | fail)
  obtain rfl : k = xs.length := by omega
  exact D.fin1 [_, h'] _ rfl rfl ⟨h', rfl, hu⟩
def newN (n : Int) : Nat := (if 0 < (if 64 < n then 64 else n) then (if 64 < n then 64 else n) else 0).toNat
theorem newN_le (n : Int) : newN n ≤ 64 := by unfold newN; split <;> (try split) <;> omega
theorem new_ct (n : Int) :
  Ct Tryz.prog 48 [.int .i64 n] [] (fun v H' => ∃ b h', v = .pointer (some ⟨b, 0, none⟩) ∧ H' = [h'] ∧ WAt 146 b (List.replicate (newN n) 0) h') := by
 refine Ct.mk' Tryz.func48 rfl rfl rfl (fun g R => ?_)
 try simp only [List.cons_append]
 simp only [List.nil_append]
 repeat' (first | refine go ?_ | refine mv ?_ | refine asg ?_ | (refine I.bi ?_; first | refine mi ?_ | refine ma ?_) | fail)
 have hle := newN_le n
 refine WX.as 5 (.int .i64 (newN n : Int)) rfl (by congr 1; unfold newN; split <;> omega) ?_
 refine WX.make (z := (0 : Int)) rfl rfl rfl rfl (Nat.le_refl _) (by omega) (by omega) rfl (fun v h1 hs1 => ?_)
 obtain ⟨p, c, hv⟩ := hs1.rs.len
 subst hv
 repeat' (first | refine go ?_ | refine asg ?_ | refine bd ?_ | refine bx rfl (fun _ => ?_) | fail)
 rename_i b
 exact D.fin1 [(b, .cells (List.toArray [.slice p (List.replicate (newN n) (0 : Int)).length c]) 146 (0, 0)) :: h1] _ rfl rfl ⟨b, _, rfl, rfl, _, h1, rfl, hs1⟩
end Go.Proofs.YtfcefidmdijjkaaGreat

namespace Go.Proofs.YtfcefidmdijjkaaGreat
open Go Go.Sl
theorem rheard_ct {b : Nat} {xs is : List Int} {u : Value} {h hi : Hp} (hw : WAt 134 b xs h) (hs : Rs is u hi) (hb : is.length ≤ 1000000) :
  Ct Tryz.prog 74 [.pointer (some ⟨b, 0, none⟩), u] [h, hi] (fun v H' => v = .tuple #[] ∧ ∃ h', H' = [h', hi] ∧ WAt 134 b (heardL xs is) h') := by
 refine Ct.mk' Tryz.func74 rfl rfl rfl (fun g R => ?_)
 try simp only [List.cons_append]
 simp only [List.nil_append]
 repeat' (first | refine go ?_ | refine asg ?_ | fail)
 refine W.loop (α := Nat × Hp) (fun x => x.1 ≤ is.length ∧ WAt 134 b (heardL xs (is.take x.1)) x.2)
  (fun x => [(0, .pointer (some ⟨b, 0, none⟩)), (1, u), (4, .int .i64 (x.1 : Int))]) (fun x => [x.2, hi, R]) (fun x => is.length - x.1) (0, h) ⟨by omega, by simpa [heardL] using hw⟩ (by repeat (first | exact Fsub.nil | refine Fsub.cons rfl ?_)) (Hsub.of_picks inferInstance) ?_
 rintro ⟨k, h'⟩ ⟨hk, hw'⟩
 simp only [] at hk hw' ⊢
 obtain ⟨v, hv, rfl, hs'⟩ := hw'
 have hr' := hs'.rs
 by_cases hlt : k < is.length
 ·obtain ⟨i, hki⟩ : ∃ i, is[k]? = some i := ⟨_, List.getElem?_eq_getElem hlt⟩
  repeat' (first | refine go ?_ | refine mv ?_ | (refine I.bin ?_; refine cm rfl rfl ?_) | (refine I.cond ?_; refine cP ?_) | (refine I.bi ?_; refine ln rfl (by assumption) ?_) | fail)
  by_cases hc : 0 ≤ i ∧ i < (heardL xs (is.take k)).length
  ·have hc' := hc
   obtain ⟨h0, h1⟩ := hc
   obtain ⟨y, hy⟩ : ∃ y, (heardL xs (is.take k))[i.toNat]? = some y := ⟨_, List.getElem?_eq_getElem (by omega)⟩
   refine W.quiet Tryz.mix (by kernel_rfl) ?_
   repeat' (first | refine go ?_ | refine mv ?_ | (refine I.ld ?_; first | refine ld rfl ?_ | refine lE rfl (by assumption) ?_) | (refine I.gd ?_; first | refine gy ?_ | refine gT ?_) | (refine I.fa ?_; refine fa ?_) | (refine I.nc ?_; refine nc ?_) | (refine I.bin ?_; refine cm rfl rfl ?_) | (refine I.pk ?_; refine pT ?_) | (refine I.cond ?_; refine cP ?_) | (refine I.bi ?_; refine ln rfl (by assumption) ?_) | (refine I.ix ?_; refine ix rfl rfl ?_) | fail)
   refine W.mix (List.replicate 9 true) [[(b, .cells (List.toArray [v]) 134 (0, 0))], hv, hi] Tryz.mix (by kernel_rfl) ?_
   repeat' (first | refine go ?_ | refine mv ?_ | (refine I.ld ?_; first | refine ld rfl ?_ | refine lE rfl (by assumption) ?_) | (refine I.fa ?_; refine fa ?_) | (refine I.nc ?_; refine nc ?_) | refine mN ?_ | refine mU ?_ | (refine I.ix ?_; first | refine ix rfl rfl ?_ | refine iI rfl rfl ?_) | fail)
   refine WX.storeE (y' := 0) rfl rfl rfl hs' hy rfl rfl rfl rfl rfl (fun h2 hs2 => ?_)
   repeat' (first | refine go ?_ | refine mv ?_ | refine asg ?_ | (refine I.bin ?_; refine ad ?_) | fail)
   refine D.round (k + 1, (b, .cells (List.toArray [v]) 134 (0, 0)) :: h2) ⟨by simp only []; omega, ?_⟩ (by simp only []; omega) (by repeat (first | exact Fsub.nil | refine Fsub.cons rfl ?_)) (Hsub.of_picks inferInstance)
   simp only []
   rw [heardL_snoc hki, heard1, if_pos hc']
   exact ⟨_, _, rfl, hs2⟩
  ·refine W.quiet Tryz.mix (by kernel_rfl) ?_
   repeat' (first | refine go ?_ | refine mv ?_ | (refine I.ld ?_; first | refine ld rfl ?_ | refine lE rfl (by assumption) ?_) | refine asg ?_ | (refine I.gd ?_; first | refine gy ?_ | refine gn ?_ | refine gS (fun _ => ?_) (fun _ => ?_)) | (refine I.fa ?_; refine fa ?_) | (refine I.nc ?_; refine nc ?_) | (refine I.bin ?_; first | refine cm rfl rfl ?_ | refine ad ?_) | (refine I.pk ?_; first | refine pT ?_ | refine pF ?_) | (refine I.cond ?_; first | refine cF ?_ | refine cN ?_) | (refine I.bi ?_; refine ln rfl (by assumption) ?_) | (refine I.ix ?_; refine ix rfl rfl ?_) | fail)
   ·have h2 : ¬ i < (heardL xs (is.take k)).length := fun h => hc ⟨by assumption, h⟩
    skip
    refine D.round (k + 1, (b, .cells (List.toArray [v]) 134 (0, 0)) :: hv) ⟨by simp only []; omega, ?_⟩ (by simp only []; omega) (by repeat (first | exact Fsub.nil | refine Fsub.cons rfl ?_)) (Hsub.of_picks inferInstance)
    simp only []
    rw [heardL_snoc hki, heard1, if_neg hc]
    exact ⟨_, _, rfl, hs'⟩
   ·refine D.round (k + 1, (b, .cells (List.toArray [v]) 134 (0, 0)) :: hv) ⟨by simp only []; omega, ?_⟩ (by simp only []; omega) (by repeat (first | exact Fsub.nil | refine Fsub.cons rfl ?_)) (Hsub.of_picks inferInstance)
    simp only []
    rw [heardL_snoc hki, heard1, if_neg hc]
    exact ⟨_, _, rfl, hs'⟩
 ·repeat' (first | refine go ?_ | refine mv ?_ | (refine I.bin ?_; refine cm rfl rfl ?_) | (refine I.cond ?_; refine cN ?_) | (refine I.bi ?_; refine ln rfl (by assumption) ?_) | fail)
  obtain rfl : k = is.length := by omega
  exact D.finE [(b, .cells (List.toArray [v]) 134 (0, 0)) :: hv, _] _ rfl ⟨rfl, _, rfl, _, _, rfl, by simpa using hs'⟩
theorem rtick_ct {b : Nat} {xs : List Int} {h : Hp} (hw : WAt 134 b xs h) (ok : Wok xs) :
  Ct Tryz.prog 77 [.pointer (some ⟨b, 0, none⟩)] [h] (fun v H' => v = .tuple #[] ∧ ∃ h', H' = [h'] ∧ WAt 134 b (tickL xs) h') := by
 obtain ⟨v, hv, rfl, hs⟩ := hw
 have hl := ok.1
 refine Ct.mk' Tryz.func77 rfl rfl rfl (fun g R => ?_)
 try simp only [List.cons_append]
 simp only [List.nil_append]
 repeat' (first | refine go ?_ | refine asg ?_ | fail)
 refine W.loop (α := Nat × Hp) (fun x => x.1 ≤ xs.length ∧ IsSl 3 (mapTo tick1 xs x.1) v x.2)
  (fun x => [(0, .pointer (some ⟨b, 0, none⟩)), (2, .int .i64 (x.1 : Int))]) (fun x => [[(b, .cells (List.toArray [v]) 134 (0, 0))], x.2, R]) (fun x => xs.length - x.1) (0, hv) ⟨by omega, by simpa [mapTo] using hs⟩ (by repeat (first | exact Fsub.nil | refine Fsub.cons rfl ?_)) (Hsub.of_picks inferInstance) ?_
 rintro ⟨k, h'⟩ ⟨hk, hw'⟩
 simp only [] at hk hw' ⊢
 have hr' := hw'.rs
 have hml := mapTo_len tick1 xs k
 by_cases hlt : k < xs.length
 ·obtain ⟨x, hx⟩ : ∃ x, xs[k]? = some x := ⟨_, List.getElem?_eq_getElem hlt⟩
  have hx' := mapTo_get (f := tick1) hx
  have hb := ok.2 x (List.mem_of_getElem? hx)
  repeat' (first | refine go ?_ | refine mv ?_ | (refine I.ld ?_; refine ld rfl ?_) | (refine I.fa ?_; refine fa ?_) | (refine I.nc ?_; refine nc ?_) | (refine I.bin ?_; refine cm rfl rfl ?_) | (refine I.cond ?_; refine cP ?_) | (refine I.bi ?_; refine ln rfl (by assumption) ?_) | fail)
  refine W.mix (List.replicate 15 true) [[(b, .cells (List.toArray [v]) 134 (0, 0))], h'] Tryz.mix (by kernel_rfl) ?_
  repeat' (first | refine go ?_ | refine mv ?_ | (refine I.ld ?_; first | refine ld rfl ?_ | refine lE rfl (by assumption) ?_) | (refine I.fa ?_; refine fa ?_) | (refine I.nc ?_; refine nc ?_) | (refine I.bin ?_; refine ad ?_) | refine mN ?_ | refine mU ?_ | (refine I.bi ?_; refine mi ?_) | (refine I.ix ?_; refine ix rfl rfl ?_) | fail)
  refine WX.storeE (y' := tick1 x) rfl rfl rfl hw' hx' rfl rfl rfl rfl rfl (fun h2 hs2 => ?_)
  rw [mapTo_set hx] at hs2
  repeat' (first | refine go ?_ | refine mv ?_ | refine asg ?_ | (refine I.bin ?_; refine ad ?_) | fail)
  exact D.round (k + 1, h2) ⟨by simp only []; omega, hs2⟩ (by simp only []; omega) (by repeat (first | exact Fsub.nil | refine Fsub.cons rfl ?_)) (Hsub.of_picks inferInstance)
 ·repeat' (first | refine go ?_ | refine mv ?_ | (refine I.ld ?_; refine ld rfl ?_) | (refine I.fa ?_; refine fa ?_) | (refine I.nc ?_; refine nc ?_) | (refine I.bin ?_; refine cm rfl rfl ?_) | (refine I.cond ?_; refine cN ?_) | (refine I.bi ?_; refine ln rfl (by assumption) ?_) | fail)
  obtain rfl : k = xs.length := by omega
  rw [mapTo_all] at hw'
  exact D.finE [(b, .cells (List.toArray [v]) 134 (0, 0)) :: h'] _ rfl ⟨rfl, _, rfl, v, h', rfl, hw'⟩
theorem rsilence_ct {b : Nat} {xs : List Int} {h : Hp} (hw : WAt 134 b xs h) (i : Int) :
  Ct Tryz.prog 82 [.pointer (some ⟨b, 0, none⟩), .int .i64 i] [h] (fun v H' => v = .int .i64 (if 0 ≤ i ∧ i < xs.length then xs.getD i.toNat 0 else 0) ∧ H' = [h]) := by
 obtain ⟨v, hv, rfl, hs⟩ := hw
 have hr := hs.rs
 refine Ct.mk' Tryz.func82 rfl rfl rfl (fun g R => ?_)
 try simp only [List.cons_append]
 simp only [List.nil_append]
 by_cases h0 : i < 0
 ·repeat' (first | refine go ?_ | refine mv ?_ | refine asg ?_ | (refine I.gd ?_; first | refine gn ?_ | refine gT ?_) | (refine I.bin ?_; refine cm rfl rfl ?_) | (refine I.pk ?_; refine pT ?_) | (refine I.cond ?_; refine cT ?_) | fail)
  exact D.fin1 [_] _ rfl rfl ⟨by rw [if_neg (by omega)], rfl⟩
 ·by_cases h1 : i < xs.length
  ·have hx : xs[i.toNat]? = some (xs.getD i.toNat 0) := by rw [List.getD_eq_getElem?_getD, List.getElem?_eq_getElem (by omega)]; rfl
   repeat' (first | refine go ?_ | refine mv ?_ | (refine I.ld ?_; first | refine ld rfl ?_ | refine lE rfl (by assumption) ?_) | refine asg ?_ | (refine I.gd ?_; first | refine gy ?_ | refine gF ?_) | (refine I.fa ?_; refine fa ?_) | (refine I.nc ?_; refine nc ?_) | (refine I.bin ?_; refine cm rfl rfl ?_) | (refine I.pk ?_; refine pF ?_) | (refine I.cond ?_; refine cN ?_) | (refine I.bi ?_; refine ln rfl (by assumption) ?_) | (refine I.ix ?_; refine iI rfl rfl ?_) | fail)
   exact D.fin1 [_] _ rfl rfl ⟨by rw [if_pos (by omega)], rfl⟩
  ·repeat' (first | refine go ?_ | refine mv ?_ | (refine I.ld ?_; refine ld rfl ?_) | refine asg ?_ | (refine I.gd ?_; first | refine gy ?_ | refine gF ?_) | (refine I.fa ?_; refine fa ?_) | (refine I.nc ?_; refine nc ?_) | (refine I.bin ?_; refine cm rfl rfl ?_) | (refine I.pk ?_; refine pF ?_) | (refine I.cond ?_; refine cP ?_) | (refine I.bi ?_; refine ln rfl (by assumption) ?_) | fail)
   exact D.fin1 [_] _ rfl rfl ⟨by rw [if_neg (by omega)], rfl⟩
theorem rsilent_ct {b : Nat} {xs : List Int} {h : Hp} (hw : WAt 134 b xs h) (hl : xs.length ≤ 64) (lim : Int) :
  Ct Tryz.prog 78 [.pointer (some ⟨b, 0, none⟩), .int .i64 lim] [h] (fun v H' => ∃ h', H' = [h, h'] ∧ IsSl 3 (silL xs lim) v h') := by
 obtain ⟨v, hv, rfl, hs⟩ := hw
 have hr := hs.rs
 refine Ct.mk' Tryz.func78 rfl rfl rfl (fun g R => ?_)
 try simp only [List.cons_append]
 simp only [List.nil_append]
 repeat' (first | refine go ?_ | refine asg ?_ | fail)
 refine W.loop (α := Nat × Value × Hp) (fun x => x.1 ≤ xs.length ∧ IsSl 3 (silK xs lim x.1) x.2.1 x.2.2)
  (fun x => [(0, .pointer (some ⟨b, 0, none⟩)), (1, .int .i64 lim), (5, x.2.1), (6, .int .i64 (x.1 : Int))]) (fun x => [x.2.2, [(b, .cells (List.toArray [v]) 134 (0, 0))], hv, R]) (fun x => xs.length - x.1)
  (0, .slice none 0 0, []) ⟨by omega, by simpa [silK] using IsSl.nil (α := Int) 3⟩ (by repeat (first | exact Fsub.nil | refine Fsub.cons rfl ?_)) (Hsub.of_picks inferInstance) ?_
 rintro ⟨k, u, h'⟩ ⟨hk, hu⟩
 simp only [] at hk hu ⊢
 have hkl := silK_len xs lim k
 by_cases hlt : k < xs.length
 ·obtain ⟨x, hx⟩ : ∃ x, xs[k]? = some x := ⟨_, List.getElem?_eq_getElem hlt⟩
  by_cases hc : lim ≤ x
  ·repeat' (first | refine go ?_ | refine mv ?_ | (refine I.ld ?_; first | refine ld rfl ?_ | refine lE rfl (by assumption) ?_) | (refine I.fa ?_; refine fa ?_) | (refine I.nc ?_; refine nc ?_) | (refine I.bin ?_; refine cm rfl rfl ?_) | (refine I.cond ?_; refine cP ?_) | (refine I.bi ?_; refine ln rfl (by assumption) ?_) | (refine I.ix ?_; refine ix rfl rfl ?_) | fail)
   refine WX.lit (ys := [(k : Int)]) rfl rfl rfl rfl rfl rfl (by decide) rfl (fun v1 h1 hs1 => ?_)
   refine WX.app rfl rfl hu hs1.rs rfl rfl (by decide) (by simp only [List.length_cons, List.length_nil]; omega) rfl (fun v2 h2 hs2 => ?_)
   repeat' (first | refine go ?_ | refine mv ?_ | refine asg ?_ | (refine I.bin ?_; refine ad ?_) | fail)
   exact D.round (k + 1, v2, h2) ⟨by simp only []; omega, by simp only []; rw [silK_succ hx, if_pos hc]; exact hs2⟩ (by simp only []; omega) (by repeat (first | exact Fsub.nil | refine Fsub.cons rfl ?_)) (Hsub.of_picks inferInstance)
  ·repeat' (first | refine go ?_ | refine mv ?_ | (refine I.ld ?_; first | refine ld rfl ?_ | refine lE rfl (by assumption) ?_) | refine asg ?_ | (refine I.fa ?_; refine fa ?_) | (refine I.nc ?_; refine nc ?_) | (refine I.bin ?_; first | refine cm rfl rfl ?_ | refine ad ?_) | (refine I.cond ?_; first | refine cP ?_ | refine cN ?_) | (refine I.bi ?_; refine ln rfl (by assumption) ?_) | (refine I.ix ?_; refine ix rfl rfl ?_) | fail)
   exact D.round (k + 1, u, h') ⟨by simp only []; omega, by simp only []; rw [silK_succ hx, if_neg hc]; exact hu⟩ (by simp only []; omega) (by repeat (first | exact Fsub.nil | refine Fsub.cons rfl ?_)) (Hsub.of_picks inferInstance)
 ·repeat' (first | refine go ?_ | refine mv ?_ | (refine I.ld ?_; refine ld rfl ?_) | refine asg ?_ | (refine I.fa ?_; refine fa ?_) | (refine I.nc ?_; refine nc ?_) | (refine I.bin ?_; refine cm rfl rfl ?_) | (refine I.cond ?_; refine cN ?_) | (refine I.bi ?_; refine ln rfl (by assumption) ?_) | fail)
  obtain rfl : k = xs.length := by omega
  exact D.fin1 [(b, .cells (List.toArray [v]) 134 (0, 0)) :: hv, h'] _ rfl rfl ⟨h', rfl, hu⟩
theorem rwnew_ct (n : Int) :
  Ct Tryz.prog 32 [.int .i64 n] [] (fun v H' => ∃ b h', v = .pointer (some ⟨b, 0, none⟩) ∧ H' = [h'] ∧ WAt 134 b (List.replicate (newN n) 0) h') := by
 refine Ct.mk' Tryz.func32 rfl rfl rfl (fun g R => ?_)
 try simp only [List.cons_append]
 simp only [List.nil_append]
 repeat' (first | refine go ?_ | refine asg ?_ | refine bd ?_ | refine bx rfl (fun _ => ?_) | fail)
 rename_i b
 have hle := newN_le n
 have hnn : (newN n : Int) ≤ n ∨ newN n = 0 := by unfold newN; split <;> (try split) <;> omega
 have hnm : n < 64 → (newN n : Int) = n ∨ n < 0 := by unfold newN; split <;> (try split) <;> omega
 have hn64 : 64 ≤ n → newN n = 64 := by unfold newN; split <;> (try split) <;> omega
 refine W.loop (α := Nat × Value × Hp) (fun x => x.1 ≤ newN n ∧ IsSl 3 (List.replicate x.1 (0 : Int)) x.2.1 x.2.2)
  (fun x => [(0, .int .i64 n), (3, .pointer (some ⟨b, 0, none⟩)), (4, .int .i64 (x.1 : Int))]) (fun x => [[(b, .cells (List.toArray [x.2.1]) 134 (0, 0))], x.2.2, R]) (fun x => newN n - x.1)
  (0, .slice none 0 0, []) ⟨by omega, IsSl.nil (α := Int) 3⟩ (by repeat (first | exact Fsub.nil | refine Fsub.cons rfl ?_)) (Hsub.of_picks inferInstance) ?_
 rintro ⟨k, u, h'⟩ ⟨hk, hu⟩
 simp only [] at hk hu ⊢
 have hul : (List.replicate k (0 : Int)).length = k := List.length_replicate
 by_cases hlt : k < newN n
 ·have h1 : (k : Int) < n := by omega
  have h2 : (k : Int) < 64 := by omega
  repeat' (first | refine go ?_ | refine mv ?_ | (refine I.ld ?_; refine ld rfl ?_) | (refine I.gd ?_; first | refine gy ?_ | refine gT ?_) | (refine I.fa ?_; refine fa ?_) | (refine I.nc ?_; refine nc ?_) | (refine I.bin ?_; refine cm rfl rfl ?_) | (refine I.pk ?_; refine pT ?_) | (refine I.cond ?_; refine cP ?_) | fail)
  refine WX.lit (ys := [(0 : Int)]) rfl rfl rfl rfl rfl rfl (by decide) rfl (fun v1 h1 hs1 => ?_)
  refine WX.app rfl rfl hu hs1.rs rfl rfl (by decide) (by simp only [List.length_cons, List.length_nil]; omega) rfl (fun v2 h2 hs2 => ?_)
  obtain ⟨p, l, hv2⟩ := hs2.rs.len
  subst hv2
  repeat' (first | refine go ?_ | refine mv ?_ | refine asg ?_ | (refine I.fa ?_; refine fa ?_) | (refine I.nc ?_; refine nc ?_) | (refine I.bin ?_; refine ad ?_) | (refine I.st ?_; refine st rfl rfl ?_) | fail)
  exact D.round (k + 1, .slice p (List.replicate k (0 : Int) ++ [0]).length l, h2) ⟨by simp only []; omega, by simp only []; rw [List.replicate_succ']; exact hs2⟩ (by simp only []; omega) (by repeat (first | exact Fsub.nil | refine Fsub.cons rfl ?_)) (Hsub.of_picks inferInstance)
 ·obtain rfl : k = newN n := by omega
  by_cases h1 : (newN n : Int) < n
  ·have h2 : ¬ (newN n : Int) < 64 := by omega
   repeat' (first | refine go ?_ | refine mv ?_ | refine asg ?_ | (refine I.gd ?_; first | refine gy ?_ | refine gT ?_) | (refine I.bin ?_; refine cm rfl rfl ?_) | (refine I.pk ?_; refine pT ?_) | (refine I.cond ?_; refine cN ?_) | fail)
   exact D.fin1 [(b, .cells (List.toArray [u]) 134 (0, 0)) :: h'] _ rfl rfl ⟨b, _, rfl, rfl, u, h', rfl, hu⟩
  ·repeat' (first | refine go ?_ | refine mv ?_ | refine asg ?_ | (refine I.gd ?_; first | refine gn ?_ | refine gF ?_) | (refine I.bin ?_; refine cm rfl rfl ?_) | (refine I.pk ?_; refine pF ?_) | (refine I.cond ?_; refine cF ?_) | fail)
   exact D.fin1 [(b, .cells (List.toArray [u]) 134 (0, 0)) :: h'] _ rfl rfl ⟨b, _, rfl, rfl, u, h', rfl, hu⟩
end Go.Proofs.YtfcefidmdijjkaaGreat

namespace Go.Sl
open Go
section
variable {g : World} {P : Program} {ops : Array Oper} {Q : Exit → Act → World → Prop} {q : Bool} {n d ty : Nat} {pos : String} {af : Array Edge} {rest : List Oper} {L : Fm} {H : HH} {v : Value}
variable {x y : Operand} {t b i T m : Nat} {ag : Bool} {cs cs' vs : List Value} {fr : Nat × Nat} {K : Obj → HH}
theorem bdN (cs : List Value) {parts : List (Nat × Operand)} {zs : List Value} {pl : List (Nat × Nat)} [hz : TZ P t zs] [hp : TP P t pl] (k : WX q g P ops Q n rest ((d, .agg cs.toArray) :: L) H) (hx : evs L (parts.map (·.2)) = some vs := by exact rfl)
  (hf' : fillL pl zs ((parts.map (·.1)).zip vs) = some cs := by kernel_rfl) (hd : Nat.blt d n = true := by exact rfl) :
  WX q g P ops Q n (⟨some d, .build t parts.toArray, ty, pos, af, none⟩ :: rest) L H := WX.build hx hf' hd k
theorem lAN (cs vs : List Value) [ht : TL P t m true] (hx : ev L x = some (.pointer (some ⟨b, i, none⟩))) [hf : Foc b (.cells (List.toArray cs) T fr) H K] (k : WX q g P ops Q n rest ((d, .agg vs.toArray) :: L) H)
  (hc : (cs.drop i).take m = vs := by kernel_rfl) (hl : vs.length = m := by kernel_rfl) (hd : Nat.blt d n = true := by exact rfl) :
  WX q g P ops Q n (⟨some d, .load t x, ty, pos, af, none⟩ :: rest) L H := WX.loadA hx hc hl hd k
theorem lN (cs : List Value) (v : Value) [ht : TL P t 1 false] (hx : ev L x = some (.pointer (some ⟨b, i, none⟩))) [hf : Foc b (.cells (List.toArray cs) T fr) H K] (k : WX q g P ops Q n rest ((d, v) :: L) H)
  (hc : cs[i]? = some v := by kernel_rfl) (hd : Nat.blt d n = true := by exact rfl) :
  WX q g P ops Q n (⟨some d, .load t x, ty, pos, af, none⟩ :: rest) L H := WX.load hx hc hd k
theorem sGN (cs vs cs' : List Value) [ht : TL P t m ag] (hx : ev L x = some (.pointer (some ⟨b, i, none⟩))) (hy : ev L y = some v) [hf : Foc b (.cells (List.toArray cs) T (0, 0)) H K] (k : WX false g P ops Q n rest L (K (.cells (List.toArray cs') T (0, 0))))
  (e : setAt cs i vs = cs' := by kernel_rfl) (hv : v.cells = vs.toArray := by kernel_rfl) (hl : vs.length = m := by kernel_rfl) (h1 : oneCells vs = true := by kernel_rfl)
  (hb : Nat.ble (i + vs.length) cs.length = true := by kernel_rfl) : WX false g P ops Q n (⟨none, .store t x y, ty, pos, af, none⟩ :: rest) L H := by subst e; exact WX.storeG hx hy hv hl h1 hb k
theorem stN (cs cs' : List Value) [ht : TL P t 1 false] (hx : ev L x = some (.pointer (some ⟨b, i, none⟩))) (hy : ev L y = some v) [hf : Foc b (.cells (List.toArray cs) T (0, 0)) H K] (k : WX false g P ops Q n rest L (K (.cells (List.toArray cs') T (0, 0))))
  (e : cs.set i v = cs' := by kernel_rfl) (h1 : v.oneCell' = true := by kernel_rfl) (hb : Nat.blt i cs.length = true := by kernel_rfl) : WX false g P ops Q n (⟨none, .store t x y, ty, pos, af, none⟩ :: rest) L H := by subst e; exact WX.store hx hy h1 hb k
theorem sGW (cs vs : List Value) [ht : TL P t m ag] (hx : ev L x = some (.pointer (some ⟨b, 0, none⟩))) (hy : ev L y = some v) [hf : Foc b (.cells (List.toArray cs) T (0, 0)) H K] (k : WX false g P ops Q n rest L (K (.cells (List.toArray vs) T (0, 0))))
  (hv : v.cells = vs.toArray := by kernel_rfl) (hl : vs.length = m := by kernel_rfl) (hlc : cs.length = vs.length := by kernel_rfl) (h1 : oneCells vs = true := by kernel_rfl) : WX false g P ops Q n (⟨none, .store t x y, ty, pos, af, none⟩ :: rest) L H :=
 sGN cs vs vs hx hy k (setAt_whole hlc) hv hl h1 (Nat.ble_eq_true_of_le (by omega))
end
end Go.Sl
namespace Go.Proofs.YtfcefidmdijjkaaGreat
open Go Go.Sl
def updF {α : Type} (f : Nat → α) (r : Nat) (x : α) : Nat → α := fun i => if i = r then x else f i
theorem updF_same {α : Type} {f : Nat → α} {r : Nat} {x : α} : updF f r x r = x := if_pos rfl
theorem updF_ne {α : Type} {f : Nat → α} {r i : Nat} {x : α} (h : i ≠ r) : updF f r x i = f i := if_neg h
abbrev WTy : Nat := 146
def W3 (T : Nat) (bq : Nat → Nat) (wt : Nat → List Int) (h : Hp) : Prop := ∃ h0 h1 h2, h = h0 ++ (h1 ++ h2) ∧ WAt T (bq 0) (wt 0) h0 ∧ WAt T (bq 1) (wt 1) h1 ∧ WAt T (bq 2) (wt 2) h2
theorem W3.at {T : Nat} {bq : Nat → Nat} {wt : Nat → List Int} {h : Hp} (w : W3 T bq wt h) {r : Nat} (hr : r < 3) :
  ∃ x f, WAt T (bq r) (wt r) x ∧ h.Perm (x ++ f) ∧ ∀ y xs, WAt T (bq r) xs y → ∃ h', W3 T bq (updF wt r xs) h' ∧ (y ++ f).Perm h' := by
 obtain ⟨h0, h1, h2, rfl, a0, a1, a2⟩ := w
 rcases (by omega : r = 0 ∨ r = 1 ∨ r = 2) with rfl | rfl | rfl
 ·exact ⟨h0, h1 ++ h2, a0, List.Perm.refl _, fun y xs hy => ⟨y ++ (h1 ++ h2), ⟨y, h1, h2, rfl, hy, a1, a2⟩, List.Perm.refl _⟩⟩
 ·refine ⟨h1, h0 ++ h2, a1, ?_, fun y xs hy => ⟨h0 ++ (y ++ h2), ⟨h0, y, h2, rfl, a0, hy, a2⟩, ?_⟩⟩
  ·rw [← List.append_assoc, ← List.append_assoc]; exact List.Perm.append_right _ List.perm_append_comm
  ·rw [← List.append_assoc, ← List.append_assoc]; exact List.Perm.append_right _ List.perm_append_comm
 ·refine ⟨h2, h0 ++ h1, a2, ?_, fun y xs hy => ⟨h0 ++ (h1 ++ y), ⟨h0, h1, y, rfl, a0, a1, hy⟩, ?_⟩⟩
  ·rw [← List.append_assoc]; exact List.perm_append_comm
  ·rw [← List.append_assoc h0 h1 y]; exact List.perm_append_comm
theorem W3.ctQ {P : Program} {T : Nat} {bq : Nat → Nat} {wt : Nat → List Int} {h : Hp} (w : W3 T bq wt h) {r : Nat} (hr : r < 3) {f : FuncId} {args : List Value} {u : Value}
  (k : ∀ x, WAt T (bq r) (wt r) x → Ct P f args [x] (fun v H' => v = u ∧ H' = [x])) : Ct P f args [h] (fun v H' => v = u ∧ H' = [h]) := by
 obtain ⟨x, fr, hx, hp, _⟩ := w.at hr
 have h1 := (k x hx).ext (r := fr)
 refine ⟨fun g R w hw => (h1.calls g R w (hw.perm (by simpa using hp.append_right R))).mono fun e w' ⟨v, H', he, ⟨hv, hH⟩, ho⟩ => ?_⟩
 subst hH
 exact ⟨v, [h], he, ⟨hv, rfl⟩, ho.perm (by simpa using (hp.append_right R).symm)⟩
theorem W3.ct {P : Program} {T : Nat} {bq : Nat → Nat} {wt : Nat → List Int} {h : Hp} (w : W3 T bq wt h) {r : Nat} (hr : r < 3) {f : FuncId} {args : List Value} {u : Value} {i : Hp} {xs : List Int}
  (k : ∀ x, WAt T (bq r) (wt r) x → Ct P f args [x, i] (fun v H' => v = u ∧ ∃ y, H' = [y, i] ∧ WAt T (bq r) xs y)) : Ct P f args [h, i] (fun v H' => v = u ∧ ∃ h', H' = [h', i] ∧ W3 T bq (updF wt r xs) h') := by
 obtain ⟨x, fr, hx, hp, hback⟩ := w.at hr
 refine ⟨fun g R w hw => ((k x hx).calls g (fr ++ R) w (hw.perm ?_)).mono fun e w' ⟨v, H', he, ⟨hv, y, hH, hy⟩, ho⟩ => ?_⟩
 ·simp only [List.cons_append, List.nil_append, List.flatten_cons, List.flatten_nil, List.append_nil]
  refine (hp.append_right (i ++ R)).trans ?_
  rw [List.append_assoc]
  refine List.Perm.append_left x ?_
  rw [← List.append_assoc, ← List.append_assoc]
  exact List.Perm.append_right R List.perm_append_comm
 ·subst hH
  obtain ⟨h', hw', hp'⟩ := hback y xs hy
  refine ⟨v, [h', i], he, ⟨hv, h', rfl, hw'⟩, ho.perm ?_⟩
  simp only [List.cons_append, List.nil_append, List.flatten_cons, List.flatten_nil, List.append_nil]
  refine List.Perm.trans ?_ (hp'.append_right (i ++ R))
  rw [List.append_assoc]
  refine List.Perm.append_left y ?_
  rw [← List.append_assoc, ← List.append_assoc]
  exact List.Perm.append_right R List.perm_append_comm
theorem W3.ctN {P : Program} {T : Nat} {bq : Nat → Nat} {wt : Nat → List Int} {h : Hp} (w : W3 T bq wt h) {r : Nat} (hr : r < 3) {f : FuncId} {args : List Value} {p : Value → Hp → Prop}
  (k : ∀ x, WAt T (bq r) (wt r) x → Ct P f args [x] (fun v H' => ∃ y, H' = [x, y] ∧ p v y)) : Ct P f args [h] (fun v H' => ∃ y, H' = [h, y] ∧ p v y) := by
 obtain ⟨x, fr, hx, hp, _⟩ := w.at hr
 refine ⟨fun g R w hw => ((k x hx).calls g (fr ++ R) w (hw.perm ?_)).mono fun e w' ⟨v, H', he, ⟨y, hH, hy⟩, ho⟩ => ?_⟩
 ·simp only [List.cons_append, List.nil_append, List.flatten_cons, List.flatten_nil, List.append_nil]
  rw [← List.append_assoc]
  exact hp.append_right R
 ·subst hH
  refine ⟨v, [h, y], he, ⟨y, rfl, hy⟩, ho.perm ?_⟩
  simp only [List.cons_append, List.nil_append, List.flatten_cons, List.flatten_nil, List.append_nil]
  refine List.Perm.trans ?_ (hp.symm.append_right (y ++ R))
  rw [List.append_assoc]
  refine List.Perm.append_left x ?_
  rw [← List.append_assoc, ← List.append_assoc]
  exact List.Perm.append_right R List.perm_append_comm
theorem W3.ct1 {P : Program} {T : Nat} {bq : Nat → Nat} {wt : Nat → List Int} {h : Hp} (w : W3 T bq wt h) {r : Nat} (hr : r < 3) {f : FuncId} {args : List Value} {u : Value} {xs : List Int}
  (k : ∀ x, WAt T (bq r) (wt r) x → Ct P f args [x] (fun v H' => v = u ∧ ∃ y, H' = [y] ∧ WAt T (bq r) xs y)) : Ct P f args [h] (fun v H' => v = u ∧ ∃ h', H' = [h'] ∧ W3 T bq (updF wt r xs) h') := by
 obtain ⟨x, fr, hx, hp, hback⟩ := w.at hr
 refine ⟨fun g R w hw => ((k x hx).calls g (fr ++ R) w (hw.perm ?_)).mono fun e w' ⟨v, H', he, ⟨hv, y, hH, hy⟩, ho⟩ => ?_⟩
 ·simp only [List.cons_append, List.nil_append, List.flatten_cons, List.flatten_nil, List.append_nil]
  rw [← List.append_assoc]
  exact hp.append_right R
 ·subst hH
  obtain ⟨h', hw', hp'⟩ := hback y xs hy
  refine ⟨v, [h'], he, ⟨hv, h', rfl, hw'⟩, ho.perm ?_⟩
  simp only [List.cons_append, List.nil_append, List.flatten_cons, List.flatten_nil, List.append_nil]
  rw [← List.append_assoc]
  exact hp'.append_right R
end Go.Proofs.YtfcefidmdijjkaaGreat

namespace Go.Proofs.YtfcefidmdijjkaaGreat
open Go Go.Sl
structure Mu where
 (dcs rn nn cl dc : Int)
 (d w : Nat)
 c : Nat → Cfg
 bq : Nat → Nat
abbrev Mu.mt (m : Mu) : Mt := ⟨m.dcs, m.rn, m.nn, m.cl, m.dc, m.d, true, some m.w, m.c 0, m.c 1, m.c 2, some (m.bq 0), some (m.bq 1), some (m.bq 2)⟩
def Mu.upd (m : Mu) (r : Nat) (x : Cfg) : Mu := ⟨m.dcs, m.rn, m.nn, m.cl, m.dc, m.d, m.w, updF m.c r x, m.bq⟩
theorem Mt.cfgAt (m : Mu) {r : Nat} (hr : r < 3) : ((Mt.enc m.mt).drop (8 + r * 13)).take 13 = (m.c r).enc := by
 rcases (by omega : r = 0 ∨ r = 1 ∨ r = 2) with rfl | rfl | rfl <;> rfl
theorem Mt.cfgSet (m : Mu) {r : Nat} (hr : r < 3) (x : Cfg) : setAt (Mt.enc m.mt) (8 + r * 13) x.enc = Mt.enc (m.upd r x).mt := by
 rcases (by omega : r = 0 ∨ r = 1 ∨ r = 2) with rfl | rfl | rfl <;> kernel_rfl
theorem Mt.cfgIn (m : Mu) {r : Nat} (hr : r < 3) (x : Cfg) : Nat.ble (0 + 8 + ((r : Nat) : Int).toNat * 13 + x.enc.length) (Mt.enc m.mt).length = true := Nat.ble_eq_true_of_le (by show 0 + 8 + r * 13 + 13 ≤ 50; omega)
def tellM (dc : Int) (r : Nat) (n : Int) (c : Cfg) : Msg := { Msg.z with kind := 9, fr := ⟨2, dc, 0, 0⟩, to := ⟨1, dc, (r : Int), n⟩, cf := c }
set_option maxRecDepth 4000 in
theorem told_ct (b : Nat) (m : Mu) {r : Nat} (hr : r < 3) (n : Int) : Ct Tryz.prog 52 [.pointer (some ⟨b, 0, none⟩), .int .i64 (r : Int), .int .i64 n] [MtBk b m.mt] (fun v H' => v = .agg (List.toArray (tellM m.dc r n (m.c r)).enc) ∧ H' = [MtBk b m.mt]) := by
 refine Ct.mk' Tryz.func52 rfl rfl rfl (fun g R => ?_)
 try simp only [List.cons_append]
 simp only [List.nil_append]
 repeat' (first | refine go ?_ | refine al (fun _ => ?_) | fail)
 rename_i b6
 refine W.flat (H' := [[(b6, .cells (List.toArray Msg.z.enc) 54 (0, 0))], MtBk b m.mt, R]) rfl ?_
 refine W.mixN 8 (List.replicate 19 true) [MtBk b m.mt] Tryz.mix (by kernel_rfl) ?_
 repeat' (first | refine go ?_ | refine mv ?_ | (refine I.ld ?_; refine ld rfl ?_) | (refine I.fa ?_; refine fa ?_) | (refine I.nc ?_; refine nc ?_) | refine mN ?_ | refine mU ?_ | (refine I.ix ?_; refine iP ?_) | (refine I.bd ?_; first | refine bdN (t := 42) [.int .i64 2, .int .i64 m.dc, .int .i64 0, .int .i64 0] ?_ (hf' := by exact rfl) | refine bdN (t := 42) [.int .i64 1, .int .i64 m.dc, .int .i64 (r : Int), .int .i64 n] ?_ (hf' := by exact rfl) | refine bdN (tellM m.dc r n (m.c r)).enc ?_) | (refine I.ld ?_; refine lAN (Mt.enc m.mt) (m.c r).enc rfl ?_ (hc := Mt.cfgAt m hr)) | (refine I.st ?_; refine sGW Msg.z.enc (tellM m.dc r n (m.c r)).enc rfl rfl ?_) | fail)
 exact D.finR1 [MtBk b m.mt] _ rfl (.cellA rfl rfl .nil) ⟨rfl, rfl⟩
def tells (dc : Int) (r k : Nat) (c : Cfg) : List Msg := (List.range k).map fun (i : Nat) => tellM dc r (i : Int) c
theorem tells_succ {dc : Int} {r k : Nat} {c : Cfg} : tells dc r (k + 1) c = tells dc r k c ++ [tellM dc r (k : Int) c] := by unfold tells; rw [List.range_succ, List.map_append]; rfl
theorem tells_len {dc : Int} {r k : Nat} {c : Cfg} : (tells dc r k c).length = k := by unfold tells; rw [List.length_map, List.length_range]
structure LayR where
 l : List Lf
 c : Nat → Cfg
 out : List Msg
def layR (l : List Lf) (cf : Nat → Cfg) (dc : Int) (nn r : Nat) (c : Cfg) : LayR := if roomB l 1 = true then ⟨layL l r c, updF cf r c, tells dc r nn c⟩ else ⟨l, cf, []⟩
def Mu.cs (m : Mu) (c : Nat → Cfg) : Mu := ⟨m.dcs, m.rn, m.nn, m.cl, m.dc, m.d, m.w, c, m.bq⟩
set_option maxRecDepth 4000 in
theorem lay_ct (b : Nat) (m : Mu) {nn : Nat} (hnn : m.nn = (nn : Int)) (h4 : nn ≤ 4) {l : List Lf} (L : MLog l) {h : Hp} (hd : IsDk (dk l) m.d h) {torn : Int} {r : Nat} (hr : r < 3) {c : Cfg} (hc : CfgN c) :
  Ct Tryz.prog 28 [.pointer (some ⟨b, 0, none⟩), .int .i64 (r : Int), .agg (List.toArray c.enc)] [MtBk b m.mt, WBk m.w m.d (lastN l) torn, h]
   (fun v H' => ∃ h' ho, H' = [MtBk b (m.cs (layR l m.c m.dc nn r c).c).mt, WBk m.w m.d (lastN (layR l m.c m.dc nn r c).l) torn, h', ho] ∧ IsDk (dk (layR l m.c m.dc nn r c).l) m.d h' ∧ IsSl 54 (layR l m.c m.dc nn r c).out v ho) := by
 have hroomc := room_ct L.ok hd (w := m.w) (seg := lastN l) (torn := torn) 1
 refine Ct.mk' Tryz.func28 rfl rfl rfl (fun g R => ?_)
 try simp only [List.cons_append]
 simp only [List.nil_append]
 repeat' (first | refine go ?_ | refine mv ?_ | (refine I.ld ?_; refine ld rfl ?_) | refine asg ?_ | (refine I.fa ?_; refine fa ?_) | (refine I.nc ?_; refine nc ?_) | refine bx rfl (fun _ => ?_) | fail)
 rename_i b5
 refine WX.callQ rfl hroomc rfl ?_
 cases hrm : roomB l 1 with
 | false =>
  have hl : layR l m.c m.dc nn r c = ⟨l, m.c, []⟩ := by unfold layR; rw [hrm]; rfl
  rw [hl]
  repeat' (first | refine go ?_ | refine asg ?_ | (refine I.cond ?_; refine cT ?_) | (refine I.un ?_; refine nt ?_) | fail)
  refine D.nilH ?_
  exact D.fin1 [MtBk b m.mt, WBk m.w m.d (lastN l) torn, h, []] _ rfl rfl ⟨h, [], rfl, hd, IsSl.nil _⟩
 | true =>
  have hl : layR l m.c m.dc nn r c = ⟨layL l r c, updF m.c r c, tells m.dc r nn c⟩ := by unfold layR; rw [hrm]; rfl
  rw [hl]
  obtain ⟨g1, g2, g3⟩ := lay_log L (show r ≤ 1000 by omega) hc hrm
  repeat' (first | refine go ?_ | (refine I.cond ?_; refine cF ?_) | (refine I.un ?_; refine nt ?_) | fail)
  refine W.mixN 8 (List.replicate 7 true ++ [false]) [MtBk b m.mt, [(b5, .cells (List.toArray c.enc) 38 (0, 0))]] Tryz.mix (by kernel_rfl) ?_
  repeat' (first | refine go ?_ | refine mv ?_ | (refine I.ld ?_; refine ld rfl ?_) | (refine I.fa ?_; refine fa ?_) | (refine I.nc ?_; refine nc ?_) | refine mU ?_ | refine mA ?_ | (refine I.bd ?_; refine bdN (recE r c).enc ?_) | (refine I.ld ?_; refine lAN c.enc c.enc rfl ?_) | fail)
  refine I.bs ?_
  refine WX.lit (ys := [recE r c]) rfl rfl rfl rfl rfl rfl (by decide) rfl (fun v2 h2 hs2 => ?_)
  repeat' (first | refine go ?_ | refine mN ?_ | fail)
  refine WX.call rfl (add_ct (w := m.w) (torn := torn) L.ok hd hs2.rs (by simp only [List.length_cons, List.length_nil]; omega) (by intro x hx; rw [List.mem_singleton.1 hx]; exact Nat.zero_le _)) rfl ?_
  rintro _ _ ⟨h3, rfl, rfl, hd3⟩
  rw [ladd_1] at hd3 ⊢
  simp only [List.cons_append, List.nil_append]
  repeat' (first | refine go ?_ | refine mv ?_ | (refine I.ld ?_; refine ld rfl ?_) | (refine I.fa ?_; refine fa ?_) | (refine I.nc ?_; refine nc ?_) | fail)
  refine WX.call rfl (sync_ct (w := m.w) (torn := torn) (seg := lastN (ladd1 l (recE r c)).1) (by have := L.ok.add1 (recE r c); exact this) hd3) rfl ?_
  rintro _ _ ⟨h4', rfl, rfl, hd4⟩
  simp only [List.cons_append, List.nil_append]
  repeat' (first | refine go ?_ | fail)
  refine W.mixN 8 (List.replicate 6 true) [[(b5, .cells (List.toArray c.enc) 38 (0, 0))]] Tryz.mix (by kernel_rfl) ?_
  repeat' (first | refine go ?_ | refine mv ?_ | (refine I.ld ?_; refine ld rfl ?_) | refine asg ?_ | (refine I.fa ?_; refine fa ?_) | (refine I.nc ?_; refine nc ?_) | refine mN ?_ | refine mU ?_ | (refine I.ix ?_; refine iP ?_) | (refine I.ld ?_; refine lAN c.enc c.enc rfl ?_) | (refine I.st ?_; refine sGN (Mt.enc m.mt) c.enc (Mt.enc (m.upd r c).mt) rfl rfl ?_ (e := Mt.cfgSet m hr c) (hb := Mt.cfgIn m hr c)) | fail)
  refine W.nilH ?_
  refine W.loop (α := Nat × Value × Hp) (fun x => x.1 ≤ nn ∧ IsSl 54 (tells m.dc r x.1 c) x.2.1 x.2.2)
   (fun x => [(0, .pointer (some ⟨b, 0, none⟩)), (1, .int .i64 (r : Int)), (7, x.2.1), (39, .int .i64 (nn : Int)), (40, .int .i64 (x.1 : Int))]) (fun x => [x.2.2, MtBk b (m.upd r c).mt, WBk m.w m.d (lastN (ladd1 l (recE r c)).1) torn, h4', R]) (fun x => nn - x.1) (0, .slice none 0 0, []) ⟨Nat.zero_le _, IsSl.nil _⟩ (by rw [← hnn]; refine Fsub.cons rfl (Fsub.cons rfl (Fsub.cons rfl (Fsub.cons rfl (Fsub.cons rfl Fsub.nil))))) (Hsub.of_picks inferInstance) ?_
  rintro ⟨k, v, ho⟩ ⟨hk, hs⟩
  simp only [] at hk hs ⊢
  have htl : (tells m.dc r k c).length ≤ 4 := by rw [tells_len]; omega
  have htc : (m.upd r c).c r = c := updF_same
  have htold := told_ct b (m.upd r c) hr (k : Int)
  rw [htc] at htold
  by_cases hlt : k < nn
  ·repeat' (first | refine go ?_ | refine mv ?_ | refine asg ?_ | (refine I.bin ?_; refine cm rfl rfl ?_) | (refine I.cond ?_; refine cP ?_) | fail)
   refine WX.callQ rfl htold rfl ?_
   refine I.bs ?_
   refine WX.lit (ys := [tellM m.dc r (k : Int) c]) rfl rfl rfl rfl rfl rfl (by decide) rfl (fun v5 h5 hs5 => ?_)
   skip
   refine WX.app rfl rfl hs hs5.rs rfl rfl (by decide) (by simp only [List.length_cons, List.length_nil]; omega) rfl (fun v6 h6 hs6 => ?_)
   rw [← tells_succ] at hs6
   repeat' (first | refine go ?_ | refine mv ?_ | refine asg ?_ | (refine I.bin ?_; refine ad ?_) | fail)
   exact D.round (k + 1, v6, h6) ⟨by simp only []; omega, hs6⟩ (by simp only []; omega) (by repeat (first | exact Fsub.nil | refine Fsub.cons rfl ?_)) (Hsub.of_picks inferInstance)
  ·obtain rfl : k = nn := by omega
   repeat' (first | refine go ?_ | refine mv ?_ | refine asg ?_ | (refine I.bin ?_; refine cm rfl rfl ?_) | (refine I.cond ?_; refine cN ?_) | fail)
   exact D.fin1 [MtBk b (m.upd r c).mt, WBk m.w m.d (lastN (ladd1 l (recE r c)).1) torn, h4', ho] _ rfl rfl ⟨h4', ho, by unfold layL; rw [lastN_sync]; rfl, hd4, hs⟩
end Go.Proofs.YtfcefidmdijjkaaGreat

namespace Go.Proofs.YtfcefidmdijjkaaGreat
open Go Go.Sl
abbrev MtU (dcs rn nn cl dc : Int) (d : Nat) (lg : Option Nat) (c : Nat → Cfg) (o : Nat → Option Nat) : Mt := ⟨dcs, rn, nn, cl, dc, d, true, lg, c 0, c 1, c 2, o 0, o 1, o 2⟩
abbrev MtD (dcs rn nn cl dc : Int) (d : Nat) : Mt := ⟨dcs, rn, nn, cl, dc, d, false, none, Cfg.z, Cfg.z, Cfg.z, none, none, none⟩
section
variable {dcs rn nn cl dc : Int} {d : Nat} {lg : Option Nat} {c : Nat → Cfg} {o : Nat → Option Nat}
theorem MtU.cfgSet {r : Nat} (hr : r < 3) (x : Cfg) : setAt (Mt.enc (MtU dcs rn nn cl dc d lg c o)) (8 + r * 13) x.enc = Mt.enc (MtU dcs rn nn cl dc d lg (updF c r x) o) := by
 rcases (by omega : r = 0 ∨ r = 1 ∨ r = 2) with rfl | rfl | rfl <;> kernel_rfl
theorem MtU.cfgIn {r : Nat} (hr : r < 3) (x : Cfg) : Nat.ble (0 + 8 + r * 13 + x.enc.length) (Mt.enc (MtU dcs rn nn cl dc d lg c o)).length = true := Nat.ble_eq_true_of_le (by show 0 + 8 + r * 13 + 13 ≤ 50; omega)
theorem MtU.wSet {r : Nat} (hr : r < 3) (b : Nat) : (Mt.enc (MtU dcs rn nn cl dc d lg c o)).set (0 + 47 + ((r : Nat) : Int).toNat * 1) (.pointer (some ⟨b, 0, none⟩)) = Mt.enc (MtU dcs rn nn cl dc d lg c (updF o r (some b))) := by
 rcases (by omega : r = 0 ∨ r = 1 ∨ r = 2) with rfl | rfl | rfl <;> kernel_rfl
theorem MtU.wIn {r : Nat} (hr : r < 3) : Nat.blt (0 + 47 + ((r : Nat) : Int).toNat * 1) (Mt.enc (MtU dcs rn nn cl dc d lg c o)).length = true := Nat.ble_eq_true_of_le (by show 0 + 47 + r * 1 + 1 ≤ 50; omega)
end
def Wp : Nat → (Nat → Nat) → List Int → Hp → Prop
 | 0, _, _, h => h = []
 | k + 1, bq, xs, h => ∃ h1 h2, h = h1 ++ h2 ∧ Wp k bq xs h1 ∧ WAt WTy (bq k) xs h2
theorem Wp.upd {bq : Nat → Nat} {xs : List Int} {b : Nat} : ∀ {k j : Nat} {h : Hp}, k ≤ j → Wp k bq xs h → Wp k (updF bq j b) xs h
 | 0, _, _, _, h => h
 | k + 1, j, _, hk, ⟨h1, h2, e, a, w⟩ => ⟨h1, h2, e, Wp.upd (by omega) a, by rw [updF_ne (by omega)]; exact w⟩
theorem Wp.w3 {bq : Nat → Nat} {xs : List Int} {h : Hp} (w : Wp 3 bq xs h) : ∃ h', h = h' ∧ W3 WTy bq (fun _ => xs) h' := by
 obtain ⟨x2, h2, rfl, ⟨x1, h1, rfl, ⟨x0, h0, rfl, e, w0⟩, w1⟩, w2⟩ := w
 have e : x0 = [] := e
 subst e
 exact ⟨_, rfl, h0, h1, h2, by simp, w0, w1, w2⟩
theorem rep_upd {rs : List Rec} {k : Nat} {x : Rec} (hx : rs[k]? = some x) (h0 : 0 ≤ x.base) : rep (rs.take (k + 1)) = updF (rep (rs.take k)) x.base.toNat x.c := by
 funext i
 rw [List.take_add_one, hx]
 show rep (rs.take k ++ [x]) i = _
 rw [rep_snoc]
 unfold updF
 by_cases h : x.base = (i : Int)
 ·rw [if_pos h, if_pos (by omega)]
 ·rw [if_neg h, if_neg (by omega)]
theorem watches_upd {bq : Nat → Nat} {k b : Nat} : updF (fun i => if i < k then some (bq i) else none) k (some b) = fun i => if i < k + 1 then some (updF bq k b i) else none := by
 funext i
 unfold updF
 show (if i = k then some b else if i < k then some (bq i) else none) = if i < k + 1 then some (if i = k then b else bq i) else none
 by_cases h : i = k
 ·subst h; rw [if_pos rfl, if_pos (by omega), if_pos rfl]
 ·rw [if_neg h, if_neg h]
  by_cases h2 : i < k
  ·rw [if_pos h2, if_pos (by omega)]
  ·rw [if_neg h2, if_neg (by omega)]
theorem startUp_ct (b : Nat) (m : Mu) : Ct Tryz.prog 16 [.pointer (some ⟨b, 0, none⟩)] [MtBk b m.mt] (fun v H' => v = .tuple #[] ∧ H' = [MtBk b m.mt]) := by
 refine Ct.mk' Tryz.func16 rfl rfl rfl (fun g R => ?_)
 try simp only [List.cons_append]
 simp only [List.nil_append]
 repeat' (first | refine go ?_ | refine mv ?_ | (refine I.ld ?_; refine ld rfl ?_) | (refine I.fa ?_; refine fa ?_) | (refine I.nc ?_; refine nc ?_) | (refine I.cond ?_; refine cT ?_) | fail)
 exact D.fin0 [MtBk b m.mt] _ rfl ⟨rfl, rfl⟩
theorem recs_le {l : List Lf} (L : MLog l) : (recs l).length ≤ 1048576 := by
 have := recs_count L.ok.good
 have := L.ok.used
 omega
set_option maxRecDepth 4000 in
theorem mstart_ct (b : Nat) (dcs rn nn cl dc : Int) {d : Nat} {l : List Lf} (L : MLog l) {h : Hp} (hd : IsDk (dk l) d h) (hb : ∀ x ∈ recs l, 0 ≤ x.base ∧ x.base < 3) :
  Ct Tryz.prog 16 [.pointer (some ⟨b, 0, none⟩)] [MtBk b (MtD dcs rn nn cl dc d), h]
   (fun v H' => ∃ w bq h' hw, v = .tuple #[] ∧ H' = [MtBk b (Mu.mt ⟨dcs, rn, nn, cl, dc, d, w, rep (recs l), bq⟩), WBk w d (lastN l) 0, h', hw] ∧ IsDk (dk l) d h' ∧ W3 WTy bq (fun _ => List.replicate (newN nn) 0) hw) := by
 have hop := open_whole L.ok hd
 rw [outF_kind L.kind] at hop
 have hll := recs_le L
 refine Ct.mk' Tryz.func16 rfl rfl rfl (fun g R => ?_)
 try simp only [List.cons_append]
 simp only [List.nil_append]
 repeat' (first | refine go ?_ | refine mv ?_ | (refine I.ld ?_; refine ld rfl ?_) | (refine I.fa ?_; refine fa ?_) | (refine I.nc ?_; refine nc ?_) | (refine I.cond ?_; refine cF ?_) | fail)
 refine I.st ?_
 refine stN (Mt.enc (MtD dcs rn nn cl dc d)) (Mt.enc (MtU dcs rn nn cl dc d none (fun _ => Cfg.z) (fun _ => none))) rfl rfl ?_
 repeat' (first | refine go ?_ | refine mv ?_ | (refine I.ld ?_; refine ld rfl ?_) | refine asg ?_ | (refine I.fa ?_; refine fa ?_) | (refine I.nc ?_; refine nc ?_) | fail)
 refine WX.call rfl hop rfl ?_
 rintro _ _ ⟨w, u, h', ho, rfl, rfl, hd', hs⟩
 have hr := hs.rs
 obtain ⟨up, uc, rfl⟩ := hr.len
 simp only [List.cons_append, List.nil_append]
 repeat' (first | refine mv ?_ | (refine I.fa ?_; refine fa ?_) | (refine I.nc ?_; refine nc ?_) | refine ex ?_ | fail)
 refine I.st ?_
 refine stN (Mt.enc (MtU dcs rn nn cl dc d none (fun _ => Cfg.z) (fun _ => none))) (Mt.enc (MtU dcs rn nn cl dc d (some w) (fun _ => Cfg.z) (fun _ => none))) rfl rfl ?_
 repeat' (first | refine go ?_ | refine mv ?_ | refine asg ?_ | (refine I.bi ?_; refine ln rfl (by assumption) ?_) | fail)
 refine W.hp (H' := [WBk w d (lastN l) 0, h', ho, MtBk b (MtU dcs rn nn cl dc d (some w) (rep ((recs l).take 0)) (fun _ => none)), R]) rfl ?_
 refine W.loop (α := Nat) (fun k => k ≤ (recs l).length) (fun k => [(0, .pointer (some ⟨b, 0, none⟩)), (24, .slice up (recs l).length uc), (25, .int .i64 ((recs l).length : Int)), (26, .int .i64 (k : Int))])
  (fun k => [MtBk b (MtU dcs rn nn cl dc d (some w) (rep ((recs l).take k)) (fun _ => none)), WBk w d (lastN l) 0, h', ho, R]) (fun k => (recs l).length - k) 0 (Nat.zero_le _) (by repeat (first | exact Fsub.nil | refine Fsub.cons rfl ?_)) (Hsub.of_picks inferInstance) ?_
 intro k hk
 by_cases hlt : k < (recs l).length
 ·obtain ⟨x, hx⟩ : ∃ x, (recs l)[k]? = some x := ⟨_, List.getElem?_eq_getElem hlt⟩
  obtain ⟨b0, b3⟩ := hb x (List.mem_of_getElem? hx)
  have hup := rep_upd hx b0
  repeat' (first | refine go ?_ | (refine I.bin ?_; refine cm rfl rfl ?_) | (refine I.cond ?_; refine cP ?_) | (refine I.ix ?_; refine ix rfl rfl ?_) | refine al (fun _ => ?_) | (refine I.ld ?_; refine WX.loadEW rfl hr hx rfl rfl ?_) | fail)
  rename_i b4
  refine WX.hp (H' := [[(b4, .cells (List.toArray Rec.z.enc) 106 (0, 0))], MtBk b (MtU dcs rn nn cl dc d (some w) (rep ((recs l).take k)) (fun _ => none)), WBk w d (lastN l) 0, h', ho, R]) rfl ?_
  refine I.st ?_
  refine sGW Rec.z.enc x.enc rfl rfl ?_
  repeat' (first | refine go ?_ | fail)
  refine W.mixN 8 (List.replicate 7 true) [[(b4, .cells (List.toArray x.enc) 106 (0, 0))]] Tryz.mix (by kernel_rfl) ?_
  repeat' (first | refine go ?_ | refine mv ?_ | (refine I.ld ?_; refine ld rfl ?_) | (refine I.fa ?_; refine fa ?_) | (refine I.nc ?_; refine nc ?_) | (refine I.bin ?_; refine ad ?_) | refine mN ?_ | refine mU ?_ | (refine I.ix ?_; refine iP ?_) | (refine I.ld ?_; refine lAN x.enc x.c.enc rfl ?_) | (refine I.st ?_; refine sGN (Mt.enc (MtU dcs rn nn cl dc d (some w) (rep ((recs l).take k)) (fun _ => none))) x.c.enc (Mt.enc (MtU dcs rn nn cl dc d (some w) (updF (rep ((recs l).take k)) x.base.toNat x.c) (fun _ => none))) rfl rfl ?_ (e := MtU.cfgSet (by omega) x.c) (hb := MtU.cfgIn (by omega) x.c)) | fail)
  rw [← hup]
  exact D.round (k + 1) (by omega) (by omega) (by repeat (first | exact Fsub.nil | refine Fsub.cons rfl ?_)) (Hsub.of_picks inferInstance)
 ·obtain rfl : k = (recs l).length := by omega
  rw [List.take_length]
  repeat' (first | refine go ?_ | refine mv ?_ | (refine I.bin ?_; refine cm rfl rfl ?_) | (refine I.cond ?_; refine cN ?_) | fail)
  refine W.nilH ?_
  refine W.hp (H' := [[], MtBk b (MtU dcs rn nn cl dc d (some w) (rep (recs l)) (fun i => if i < 0 then some ((fun _ => 0) i) else none)), WBk w d (lastN l) 0, h', ho, R]) rfl ?_
  refine W.loop (α := Nat × (Nat → Nat) × Hp) (fun x => x.1 ≤ 3 ∧ Wp x.1 x.2.1 (List.replicate (newN nn) 0) x.2.2) (fun x => [(0, .pointer (some ⟨b, 0, none⟩)), (39, .int .i64 (x.1 : Int))])
   (fun x => [x.2.2, MtBk b (MtU dcs rn nn cl dc d (some w) (rep (recs l)) (fun i => if i < x.1 then some (x.2.1 i) else none)), WBk w d (lastN l) 0, h', R]) (fun x => 3 - x.1) (0, (fun _ => 0), []) ⟨Nat.zero_le _, rfl⟩ (by repeat (first | exact Fsub.nil | refine Fsub.cons rfl ?_)) (Hsub.of_picks inferInstance) ?_
  rintro ⟨k, bq, hw⟩ ⟨hk, hwp⟩
  simp only [] at hk hwp ⊢
  by_cases hlt : k < 3
  ·repeat' (first | refine go ?_ | refine mv ?_ | refine asg ?_ | (refine I.bin ?_; refine cm rfl rfl ?_) | (refine I.cond ?_; refine cP ?_) | fail)
   refine W.mixN 8 (List.replicate 7 true ++ [false, true, true]) [MtBk b (MtU dcs rn nn cl dc d (some w) (rep (recs l)) (fun i => if i < k then some (bq i) else none))] Tryz.mix (by kernel_rfl) ?_
   repeat' (first | refine go ?_ | refine mv ?_ | (refine I.ld ?_; refine ld rfl ?_) | (refine I.fa ?_; refine fa ?_) | (refine I.nc ?_; refine nc ?_) | refine mU ?_ | refine mA ?_ | fail)
   refine WX.call rfl (new_ct nn) rfl ?_
   rintro _ _ ⟨b1, h1, rfl, rfl, hw1⟩
   simp only [List.cons_append, List.nil_append]
   repeat' (first | refine go ?_ | (refine I.fa ?_; refine fa ?_) | (refine I.nc ?_; refine nc ?_) | refine mN ?_ | refine mU ?_ | (refine I.ix ?_; refine iP ?_) | fail)
   refine I.st ?_
   refine stN (Mt.enc (MtU dcs rn nn cl dc d (some w) (rep (recs l)) (fun i => if i < k then some (bq i) else none))) (Mt.enc (MtU dcs rn nn cl dc d (some w) (rep (recs l)) (updF (fun i => if i < k then some (bq i) else none) k (some b1)))) rfl rfl ?_ (e := MtU.wSet hlt b1) (hb := MtU.wIn hlt)
   rw [watches_upd]
   repeat' (first | refine go ?_ | refine mv ?_ | (refine I.bin ?_; refine ad ?_) | fail)
   exact D.round (k + 1, updF bq k b1, hw ++ h1) ⟨by simp only []; omega, hw, h1, rfl, Wp.upd (Nat.le_refl _) hwp, by simp only []; rw [updF_same]; exact hw1⟩ (by simp only []; omega) (by repeat (first | exact Fsub.nil | refine Fsub.cons rfl ?_)) (Hsub.of_picks inferInstance)
  ·obtain rfl : k = 3 := by omega
   obtain ⟨_, rfl, hw3⟩ := Wp.w3 hwp
   repeat' (first | refine go ?_ | (refine I.bin ?_; refine cm rfl rfl ?_) | (refine I.cond ?_; refine cF ?_) | fail)
   refine D.hp (H' := [hw, MtBk b (Mu.mt ⟨dcs, rn, nn, cl, dc, d, w, rep (recs l), bq⟩), WBk w d (lastN l) 0, h', R]) rfl ?_
   exact D.finE [MtBk b (Mu.mt ⟨dcs, rn, nn, cl, dc, d, w, rep (recs l), bq⟩), WBk w d (lastN l) 0, h', hw] _ rfl ⟨w, bq, h', hw, rfl, rfl, hd', hw3⟩
set_option maxRecDepth 4000 in
theorem mcrash_ct (b : Nat) (m : Mu) : Ct Tryz.prog 17 [.pointer (some ⟨b, 0, none⟩)] [MtBk b m.mt] (fun v H' => v = .tuple #[] ∧ H' = [MtBk b (MtD m.dcs m.rn m.nn m.cl m.dc m.d)]) := by
 refine Ct.mk' Tryz.func17 rfl rfl rfl (fun g R => ?_)
 try simp only [List.cons_append]
 simp only [List.nil_append]
 repeat' (first | refine go ?_ | refine mv ?_ | (refine I.ld ?_; refine ld rfl ?_) | (refine I.fa ?_; refine fa ?_) | (refine I.nc ?_; refine nc ?_) | (refine I.cond ?_; refine cT ?_) | fail)
 refine W.mixN 8 (List.replicate 14 true) [MtBk b m.mt] Tryz.mix (by kernel_rfl) ?_
 repeat' (first | refine go ?_ | refine mv ?_ | (refine I.ld ?_; refine ld rfl ?_) | (refine I.fa ?_; refine fa ?_) | (refine I.nc ?_; refine nc ?_) | refine mN ?_ | refine mU ?_ | (refine I.ld ?_; refine lAN (Mt.enc m.mt) [.int .i64 m.dcs, .int .i64 m.rn, .int .i64 m.nn, .int .i64 m.cl] rfl ?_) | (refine I.bd ?_; refine bdN (Mt.enc (MtD m.dcs m.rn m.nn m.cl m.dc m.d)) ?_) | (refine I.st ?_; refine sGW (Mt.enc m.mt) (Mt.enc (MtD m.dcs m.rn m.nn m.cl m.dc m.d)) rfl rfl ?_) | fail)
 exact D.finE [MtBk b (MtD m.dcs m.rn m.nn m.cl m.dc m.d)] _ rfl ⟨rfl, rfl⟩
theorem crashDn_ct (b : Nat) (dcs rn nn cl dc : Int) (d : Nat) : Ct Tryz.prog 17 [.pointer (some ⟨b, 0, none⟩)] [MtBk b (MtD dcs rn nn cl dc d)] (fun v H' => v = .tuple #[] ∧ H' = [MtBk b (MtD dcs rn nn cl dc d)]) := by
 refine Ct.mk' Tryz.func17 rfl rfl rfl (fun g R => ?_)
 try simp only [List.cons_append]
 simp only [List.nil_append]
 repeat' (first | refine go ?_ | refine mv ?_ | (refine I.ld ?_; refine ld rfl ?_) | (refine I.fa ?_; refine fa ?_) | (refine I.nc ?_; refine nc ?_) | (refine I.cond ?_; refine cF ?_) | fail)
 exact D.finE [MtBk b (MtD dcs rn nn cl dc d)] _ rfl ⟨rfl, rfl⟩
end Go.Proofs.YtfcefidmdijjkaaGreat

namespace Go.Proofs.YtfcefidmdijjkaaGreat
open Go Go.Sl
structure MS where
 (dcs cl : Int)
 (rn nn : Nat)
 dc : Int
 up : Bool
 lg : List Lf
 ch : Nat → Ch
 wt : Nat → List Int
structure MsOk (s : MS) : Prop where
 r1 : 1 ≤ s.rn
 r3 : s.rn ≤ 3
 n1 : 1 ≤ s.nn
 n4 : s.nn ≤ 4
 lg : MLog s.lg
 ch : ∀ r, r < s.rn → ChOk (s.ch r)
 rep : ∀ r, r < s.rn → rep (recs s.lg) r = (s.ch r).cfg
 base : ∀ x ∈ recs s.lg, 0 ≤ x.base ∧ x.base < (s.rn : Int)
 wl : ∀ r, (s.wt r).length = s.nn
 wk : ∀ r, Wok (s.wt r)
abbrev MS.mu (s : MS) (d w : Nat) (bq : Nat → Nat) : Mu := ⟨s.dcs, (s.rn : Int), (s.nn : Int), s.cl, s.dc, d, w, rep (recs s.lg), bq⟩
def IsMs (s : MS) (b : Nat) (h : Hp) : Prop :=
 (s.up = true ∧ ∃ d w torn bq hd hw, h = MtBk b (s.mu d w bq).mt ++ (WBk w d (lastN s.lg) torn ++ (hd ++ hw)) ∧ IsDk (dk s.lg) d hd ∧ W3 WTy bq s.wt hw) ∨
 (s.up = false ∧ ∃ d hd, h = MtBk b (MtD s.dcs s.rn s.nn s.cl s.dc d) ++ hd ∧ IsDk (dk s.lg) d hd)
def layS (s : MS) (r : Nat) (c : Ch) : MS × List Msg :=
 (⟨s.dcs, s.cl, s.rn, s.nn, s.dc, s.up, if roomB s.lg 1 = true then layL s.lg r c.cfg else s.lg, if roomB s.lg 1 = true then updF s.ch r c else s.ch, s.wt⟩, if roomB s.lg 1 = true then tells s.dc r s.nn c.cfg else [])
theorem MsOk.lay {s : MS} (ok : MsOk s) {r : Nat} (hr : r < s.rn) {c : Ch} (hc : ChOk c) : MsOk (layS s r c).1 := by
 unfold layS
 by_cases hrm : roomB s.lg 1 = true
 ·obtain ⟨g1, g2, g3⟩ := lay_log ok.lg (r := r) (by have := ok.r3; omega) (Ch.cfgN hc) hrm
  simp only [hrm, if_true]
  refine ⟨ok.r1, ok.r3, ok.n1, ok.n4, g2, fun i hi => ?_, fun i hi => ?_, fun x hx => ?_, ok.wl, ok.wk⟩
  ·show ChOk (updF s.ch r c i)
   unfold updF; split
   ·exact hc
   ·exact ok.ch i hi
  ·show Go.Proofs.YtfcefidmdijjkaaGreat.rep (recs (layL s.lg r c.cfg)) i = (updF s.ch r c i).cfg
   rw [g3, rep_lay]
   unfold updF; split
   ·rfl
   ·exact ok.rep i hi
  ·simp only [] at hx
   rw [g3] at hx
   rcases List.mem_append.1 hx with hx | hx
   ·exact ok.base x hx
   ·rw [List.mem_singleton.1 hx]; show (0 : Int) ≤ (r : Int) ∧ (r : Int) < (s.rn : Int); omega
 ·simp only [hrm]
  exact ⟨ok.r1, ok.r3, ok.n1, ok.n4, ok.lg, ok.ch, ok.rep, ok.base, ok.wl, ok.wk⟩
theorem layR_s {s : MS} (ok : MsOk s) {r : Nat} (hr : r < s.rn) {c : Ch} (hc : ChOk c) :
  layR s.lg (rep (recs s.lg)) s.dc s.nn r c.cfg = ⟨(layS s r c).1.lg, rep (recs (layS s r c).1.lg), (layS s r c).2⟩ := by
 unfold layR layS
 by_cases hrm : roomB s.lg 1 = true
 ·obtain ⟨g1, g2, g3⟩ := lay_log ok.lg (r := r) (by have := ok.r3; omega) (Ch.cfgN hc) hrm
  simp only [hrm, if_true]
  rw [g3]
  congr 1
  funext i
  rw [rep_lay]
  rfl
 ·simp only [hrm]; rfl
def MS.ww (s : MS) (wt : Nat → List Int) : MS := ⟨s.dcs, s.cl, s.rn, s.nn, s.dc, s.up, s.lg, s.ch, wt⟩
theorem MsOk.ww {s : MS} (ok : MsOk s) {wt : Nat → List Int} (h : ∀ r, (wt r).length = s.nn ∧ Wok (wt r)) : MsOk (s.ww wt) :=
 ⟨ok.r1, ok.r3, ok.n1, ok.n4, ok.lg, ok.ch, ok.rep, ok.base, fun r => (h r).1, fun r => (h r).2⟩
theorem MsOk.cfg {s : MS} (ok : MsOk s) {d w : Nat} {bq : Nat → Nat} {r : Nat} (hr : r < s.rn) : ((Mt.enc (s.mu d w bq).mt).drop (8 + r * 13)).take 13 = (s.ch r).cfg.enc := by
 rw [← ok.rep r hr]; exact Mt.cfgAt (s.mu d w bq) (by have := ok.r3; omega)
theorem Mt.wAtI (m : Mu) {r : Nat} (hr : r < 3) : (Mt.enc m.mt)[0 + 47 + ((r : Nat) : Int).toNat * 1]? = some (.pointer (some ⟨m.bq r, 0, none⟩)) := by
 rcases (by omega : r = 0 ∨ r = 1 ∨ r = 2) with rfl | rfl | rfl <;> rfl
def nodeB (s : MS) (a : Ad4) : Bool := decide (s.up = true ∧ a.k = 1 ∧ a.dc = s.dc ∧ (0 ≤ a.rg ∧ a.rg < (s.rn : Int)) ∧ (0 ≤ a.nd ∧ a.nd < (s.nn : Int)))
set_option maxHeartbeats 1000000 in
theorem mnode_ct {s : MS} (ok : MsOk s) (hup : s.up = true) (b d w : Nat) (bq : Nat → Nat) (a : Ad4) :
  Ct Tryz.prog 49 [.pointer (some ⟨b, 0, none⟩), .agg (List.toArray a.enc)] [MtBk b (s.mu d w bq).mt] (fun v H' => v = .bool (nodeB s a) ∧ H' = [MtBk b (s.mu d w bq).mt]) := by
 have r1 := ok.r1; have r3 := ok.r3; have n4 := ok.n4
 have hrg := ranged_ct b (m := (s.mu d w bq).mt) (by show (1 : Int) ≤ (s.rn : Int); omega) (by show (s.rn : Int) ≤ 3; omega) a.rg
 have hbt := between_ct a.nd 0 ((s.nn : Int) - 1)
 have hnn : (s.mu d w bq).mt.nn = (s.nn : Int) := rfl
 refine Ct.mk' Tryz.func49 rfl rfl rfl (fun g R => ?_)
 try simp only [List.cons_append]
 simp only [List.nil_append]
 by_cases h1 : a.k = 1
 ·by_cases h2 : a.dc = s.dc
  ·by_cases h3 : 0 ≤ a.rg ∧ a.rg < (s.rn : Int)
   ·rw [show (decide ((s.mu d w bq).mt.up = true ∧ 0 ≤ a.rg ∧ a.rg < (s.mu d w bq).mt.rn)) = true from decide_eq_true ⟨rfl, h3⟩] at hrg
    repeat' (first | refine go ?_ | refine asg ?_ | refine bx rfl (fun _ => ?_) | fail)
    rename_i b3
    refine W.mixN 8 (List.replicate 16 true ++ [false] ++ List.replicate 10 true ++ [false, true]) [MtBk b (s.mu d w bq).mt, [(b3, .cells (List.toArray a.enc) 42 (0, 0))]] Tryz.mix (by kernel_rfl) ?_
    repeat' (first | refine go ?_ | refine mv ?_ | (refine I.ld ?_; refine ld rfl ?_) | refine asg ?_ | (refine I.gd ?_; first | refine gy ?_ | refine gT ?_) | (refine I.fa ?_; refine fa ?_) | (refine I.nc ?_; refine nc ?_) | (refine I.bin ?_; first | refine cm rfl rfl ?_ | refine su ?_) | (refine I.pk ?_; refine pT ?_) | refine mN ?_ | refine mU ?_ | refine mA ?_ | (refine I.cl ?_; first | refine WX.callQ rfl hrg rfl ?_ | refine WX.callQ rfl hbt rfl ?_) | fail)
    exact D.fin1 [MtBk b (s.mu d w bq).mt] _ rfl rfl ⟨by unfold nodeB; congr 1; rw [decide_eq_decide]; constructor <;> intro h <;> (first | (refine ⟨hup, h1, h2, h3, ?_⟩; omega) | omega), rfl⟩
   ·rw [show (decide ((s.mu d w bq).mt.up = true ∧ 0 ≤ a.rg ∧ a.rg < (s.mu d w bq).mt.rn)) = false from decide_eq_false fun h => h3 h.2] at hrg
    repeat' (first | refine go ?_ | refine asg ?_ | refine bx rfl (fun _ => ?_) | fail)
    rename_i b3
    refine W.mixN 8 (List.replicate 16 true ++ [false] ++ List.replicate 10 true ++ [false, true]) [MtBk b (s.mu d w bq).mt, [(b3, .cells (List.toArray a.enc) 42 (0, 0))]] Tryz.mix (by kernel_rfl) ?_
    repeat' (first | refine go ?_ | refine mv ?_ | (refine I.ld ?_; refine ld rfl ?_) | refine asg ?_ | (refine I.gd ?_; first | refine gy ?_ | refine gn ?_ | refine gT ?_) | (refine I.fa ?_; refine fa ?_) | (refine I.nc ?_; refine nc ?_) | (refine I.bin ?_; refine cm rfl rfl ?_) | (refine I.pk ?_; first | refine pT ?_ | refine pF ?_) | refine mN ?_ | refine mU ?_ | refine mA ?_ | (refine I.cl ?_; refine WX.callQ rfl hrg rfl ?_) | fail)
    exact D.fin1 [MtBk b (s.mu d w bq).mt] _ rfl rfl ⟨by unfold nodeB; rw [decide_eq_false fun h => h3 h.2.2.2.1], rfl⟩
  ·repeat' (first | refine go ?_ | refine asg ?_ | refine bx rfl (fun _ => ?_) | fail)
   rename_i b3
   refine W.mixN 8 (List.replicate 16 true ++ [false] ++ List.replicate 10 true ++ [false, true]) [MtBk b (s.mu d w bq).mt, [(b3, .cells (List.toArray a.enc) 42 (0, 0))]] Tryz.mix (by kernel_rfl) ?_
   repeat' (first | refine go ?_ | refine mv ?_ | (refine I.ld ?_; refine ld rfl ?_) | refine asg ?_ | (refine I.gd ?_; first | refine gy ?_ | refine gn ?_ | refine gT ?_ | refine gF ?_) | (refine I.fa ?_; refine fa ?_) | (refine I.nc ?_; refine nc ?_) | (refine I.bin ?_; refine cm rfl rfl ?_) | (refine I.pk ?_; first | refine pT ?_ | refine pF ?_) | refine mN ?_ | refine mU ?_ | refine mA ?_ | fail)
   exact D.fin1 [MtBk b (s.mu d w bq).mt] _ rfl rfl ⟨by unfold nodeB; rw [decide_eq_false fun h => h2 h.2.2.1], rfl⟩
 ·repeat' (first | refine go ?_ | refine asg ?_ | refine bx rfl (fun _ => ?_) | fail)
  rename_i b3
  refine W.mixN 8 (List.replicate 16 true ++ [false] ++ List.replicate 10 true ++ [false, true]) [MtBk b (s.mu d w bq).mt, [(b3, .cells (List.toArray a.enc) 42 (0, 0))]] Tryz.mix (by kernel_rfl) ?_
  repeat' (first | refine go ?_ | refine mv ?_ | (refine I.ld ?_; refine ld rfl ?_) | refine asg ?_ | (refine I.gd ?_; first | refine gn ?_ | refine gF ?_) | (refine I.fa ?_; refine fa ?_) | (refine I.bin ?_; refine cm rfl rfl ?_) | (refine I.pk ?_; refine pF ?_) | refine mN ?_ | refine mU ?_ | refine mA ?_ | fail)
  exact D.fin1 [MtBk b (s.mu d w bq).mt] _ rfl rfl ⟨by unfold nodeB; rw [decide_eq_false fun h => h1 h.2.1], rfl⟩
end Go.Proofs.YtfcefidmdijjkaaGreat
