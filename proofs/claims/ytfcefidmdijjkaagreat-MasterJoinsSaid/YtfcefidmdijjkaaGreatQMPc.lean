/-
  Texts of one road, one behind the other.
-/
import Derived.Test.YtfcefidmdijjkaaGreatQMPb
set_option linter.unusedVariables false
set_option linter.unusedSimpArgs false
namespace Go.Proofs.YtfcefidmdijjkaaGreat
open Go Go.Sl
def toN (l : List Lf) : Int := if 4096 ≤ (dk l).size (lastN l) then lastN l + 1 else lastN l
theorem appE_len (k : Int) (n : Nat) (l : List Lf) : (dk l).appE k n = if k < 0 ∨ 1099511627776 < k then 50 else if (((dk l).find k).isNone = true ∧ 64 ≤ l.length) ∨ 1048576 < (dk l).used + n then 51 else 0 := by
 unfold DkS.appE; rw [show (dk l).fs.length = l.length from List.length_map _]
theorem ladd1_bad {l : List Lf} {r : Rec} (h : r.code ≠ 0) : ladd1 l r = (l, r.code) := by unfold ladd1; rw [if_pos h]
theorem lastN_range {l : List Lf} (ok : LOk l) : 0 ≤ lastN l ∧ lastN l ≤ 1099511627776 := by
 rcases List.eq_nil_or_concat l with rfl | ⟨pre, f, rfl⟩
 ·rw [lastN_nil]; omega
 ·rw [List.concat_eq_append] at ok ⊢
  rw [lastN_app]
  exact ⟨ok.lo f (by simp), ok.hi f (by simp)⟩
theorem ladd1_good {l : List Lf} (ok : LOk l) {r : Rec} (hr : r.code = 0) :
  ((dk l).appE (toN l) r.fr.length ≠ 0 → ladd1 l r = (l, 51)) ∧ ((dk l).appE (toN l) r.fr.length = 0 → (ladd1 l r).2 = 0 ∧ (dk l).app (toN l) r.fr = dk (ladd1 l r).1 ∧ lastN (ladd1 l r).1 = toN l) := by
 have hle := (Rec.good hr).fr_le
 unfold ladd1
 rw [if_neg (by simpa using hr)]
 rcases List.eq_nil_or_concat l with rfl | ⟨pre, f, rfl⟩
 ·have ht : toN [] = 0 := rfl
  have he : (dk []).appE 0 r.fr.length = 0 := by
   rw [appE_len, if_neg (by omega), if_neg]
   rw [used_nil]; simp; omega
  rw [ht]
  refine ⟨fun h => absurd he h, fun _ => ⟨rfl, ?_, rfl⟩⟩
  exact dk_app_new he rfl
 ·rw [List.concat_eq_append] at ok ⊢
  have hs := size_last ok
  have hlo := ok.lo f (by simp)
  have hhi := ok.hi f (by simp)
  rw [List.getLast?_concat] at hs ⊢
  simp only [List.dropLast_concat] at hs ⊢
  by_cases h4 : 4096 ≤ (bytes f.rs).length
  ·have ht : toN (pre ++ [f]) = f.n + 1 := by unfold toN; rw [hs, if_pos h4, lastN_app]
   have hn := find_next ok (n := f.n + 1) (by rw [lastN_app]; omega)
   rw [ht, if_pos h4]
   by_cases hc : 1099511627776 < f.n + 1 ∨ 64 ≤ (pre ++ [f]).length ∨ 1048576 < (dk (pre ++ [f])).used + r.fr.length
   ·rw [if_pos hc]
    refine ⟨fun _ => rfl, fun he => ?_⟩
    rw [appE_len, hn] at he
    simp only [Option.isNone_none, true_and] at he
    split at he
    ·exact absurd he (by decide)
    ·split at he
     ·exact absurd he (by decide)
     ·rename_i h1 h2; exfalso; rcases hc with hc | hc | hc
      ·exact h1 (.inr hc)
      ·exact h2 (.inl hc)
      ·exact h2 (.inr hc)
   ·rw [if_neg hc]
    have he : (dk (pre ++ [f])).appE (f.n + 1) r.fr.length = 0 := by
     rw [appE_len, hn, if_neg (fun h => h.elim (fun h => by omega) (fun h => hc (.inl h))), if_neg]
     simp only [Option.isNone_none, true_and]
     exact fun h => hc (.inr h)
    refine ⟨fun h => absurd he h, fun _ => ⟨rfl, dk_app_new he hn, lastN_app⟩⟩
  ·have ht : toN (pre ++ [f]) = f.n := by unfold toN; rw [hs, if_neg h4, lastN_app]
   have hn := dk_find (post := []) ok.toLUp
   rw [ht, if_neg h4]
   by_cases hc : 1048576 < (dk (pre ++ [f])).used + r.fr.length
   ·rw [if_pos hc]
    refine ⟨fun _ => rfl, fun he => ?_⟩
    rw [appE_len, hn, if_neg (by omega), if_pos (.inr hc)] at he
    exact absurd he (by decide)
   ·rw [if_neg hc]
    have he : (dk (pre ++ [f])).appE f.n r.fr.length = 0 := by
     rw [appE_len, hn, if_neg (by omega), if_neg]
     simp only [Option.isNone_some, Bool.false_eq_true, false_and, false_or]
     exact hc
    exact ⟨fun h => absurd he h, fun _ => ⟨rfl, dk_app_old ok he, lastN_app⟩⟩
theorem ladd_drop {l : List Lf} {rs : List Rec} {i : Nat} {r : Rec} (h : rs[i]? = some r) : ladd l (rs.drop i) = if (ladd1 l r).2 ≠ 0 then ladd1 l r else ladd (ladd1 l r).1 (rs.drop (i + 1)) := by
 obtain ⟨hi, e⟩ := List.getElem?_eq_some_iff.1 h
 rw [List.drop_eq_getElem_cons hi, e]
 rfl
abbrev WBk (w d : Nat) (seg torn : Int) : Hp := [(w, .cells (List.toArray [.pointer (some ⟨d, 0, none⟩), .int .i64 seg, .int .i64 torn]) 140 (0, 0))]
set_option maxHeartbeats 2000000 in
theorem add_ct {l : List Lf} (ok : LOk l) {d : Nat} {h : Hp} (hd : IsDk (dk l) d h) {rs : List Rec} {v : Value} {hx : Hp} (hr : Rs rs v hx) (hl : rs.length ≤ 1099511627776) (hz : ∀ r ∈ rs, r.size ≤ 1073741824) {w : Nat} {torn : Int} :
  Ct Tryz.prog 61 [.pointer (some ⟨w, 0, none⟩), v] [WBk w d (lastN l) torn, h, hx] (fun res H' => ∃ h', res = .int .i64 (ladd l rs).2 ∧ H' = [WBk w d (lastN (ladd l rs).1) torn, h', hx] ∧ IsDk (dk (ladd l rs).1) d h') := by
 refine Ct.mk' Tryz.func61 rfl rfl rfl (fun g R => ?_)
 try simp only [List.cons_append]
 simp only [List.nil_append]
 repeat' (first | refine go ?_ | refine mv ?_ | refine asg ?_ | (refine I.bi ?_; refine ln rfl (by assumption) ?_) | fail)
 refine W.loop (α := Nat × List Lf × Hp) (fun x => x.1 ≤ rs.length ∧ LOk x.2.1 ∧ IsDk (dk x.2.1) d x.2.2 ∧ ladd l rs = ladd x.2.1 (rs.drop x.1))
  (fun x => [(0, .pointer (some ⟨w, 0, none⟩)), (1, v), (10, v), (11, .int .i64 (rs.length : Int)), (12, .int .i64 (x.1 : Int))])
  (fun x => [WBk w d (lastN x.2.1) torn, x.2.2, hx, R]) (fun x => rs.length - x.1) (0, l, h) ⟨Nat.zero_le _, ok, hd, rfl⟩ (by repeat (first | exact Fsub.nil | refine Fsub.cons rfl ?_)) (Hsub.of_picks inferInstance) ?_
 rintro ⟨i, m, y⟩ ⟨hi, okm, hdm, he⟩
 simp only [] at hi okm hdm he ⊢
 by_cases hlt : i < rs.length
 ·obtain ⟨r, hri⟩ : ∃ r, rs[i]? = some r := ⟨_, List.getElem?_eq_getElem hlt⟩
  rw [ladd_drop hri] at he
  have hsz := hz r (List.mem_of_getElem? hri)
  have hrp := recordP_ct r hsz
  have hsc := size_ct hdm (lastN m)
  by_cases hc : r.code = 0
  ·have hle := (Rec.good hc).fr_le
   obtain ⟨hA, hB⟩ := ladd1_good okm hc
   rw [hc] at hrp
   have hrg := lastN_range okm
   repeat' (first | refine go ?_ | (refine I.ld ?_; first | refine lA rfl ?_ | refine lF rfl (by assumption) ?_) | (refine I.bin ?_; refine cm rfl rfl ?_) | (refine I.cond ?_; refine cP ?_) | (refine I.ix ?_; refine ix rfl rfl ?_) | (refine I.st ?_; refine sG rfl rfl ?_) | refine al (fun _ => ?_) | fail)
   refine WX.call rfl hrp rfl ?_
   rintro _ _ ⟨u2, h2, rfl, rfl, hs2⟩
   simp only [List.cons_append, List.nil_append]
   have hap := fun k => append_ct hdm k hs2.rs (by omega) okm.used (by rw [okm.fs_len]; exact okm.len) okm.loose
   have htn : toN m = if 4096 ≤ (dk m).size (lastN m) then lastN m + 1 else lastN m := rfl
   by_cases h4 : 4096 ≤ (dk m).size (lastN m)
   ·rw [if_pos h4] at htn
    rw [htn] at hA hB
    repeat' (first | refine go ?_ | refine mv ?_ | (refine I.ld ?_; refine ld rfl ?_) | refine asg ?_ | (refine I.fa ?_; refine fa ?_) | (refine I.nc ?_; refine nc ?_) | (refine I.bin ?_; refine cm rfl rfl ?_) | (refine I.cond ?_; refine cF ?_) | refine ex ?_ | fail)
    refine WX.callQ rfl hsc rfl ?_
    repeat' (first | refine go ?_ | refine mv ?_ | (refine I.ld ?_; refine ld rfl ?_) | refine asg ?_ | (refine I.fa ?_; refine fa ?_) | (refine I.nc ?_; refine nc ?_) | (refine I.bin ?_; first | refine cm rfl rfl ?_ | refine ad ?_) | (refine I.cond ?_; refine cP ?_) | fail)
    refine WX.call rfl (hap (lastN m + 1)) rfl ?_
    rintro _ _ ⟨y', rfl, rfl, hdy⟩
    simp only [List.cons_append, List.nil_append]
    by_cases hE : (dk m).appE (lastN m + 1) r.fr.length = 0
    ·obtain ⟨e1, e2, e3⟩ := hB hE
     rw [e2] at hdy
     rw [if_neg (by rw [e1]; decide)] at he
     have ok1 := okm.add1 r
     repeat' (first | refine go ?_ | refine mv ?_ | (refine I.fa ?_; refine fa ?_) | (refine I.nc ?_; refine nc ?_) | (refine I.bin ?_; first | refine cm rfl rfl ?_ | refine ad ?_) | (refine I.cond ?_; refine cN ?_) | (refine I.st ?_; refine st rfl rfl ?_) | fail)
     rw [← e3]
     exact D.round (i + 1, (ladd1 m r).1, y') ⟨by simp only []; omega, ok1, hdy, he⟩ (by simp only []; omega) (by repeat (first | exact Fsub.nil | refine Fsub.cons rfl ?_)) (Hsub.of_picks inferInstance)
    ·have e1 := hA hE
     rw [e1, if_pos (show (51 : Int) ≠ 0 by decide)] at he
     have e2 : (dk m).app (lastN m + 1) r.fr = dk m := by unfold DkS.app; rw [if_neg hE]
     rw [e2] at hdy
     repeat' (first | refine go ?_ | refine asg ?_ | (refine I.bin ?_; refine cm rfl rfl ?_) | (refine I.cond ?_; refine cP ?_) | fail)
     exact D.fin1 [WBk w d (lastN m) torn, y', hx] _ rfl rfl ⟨y', by rw [he], by rw [he], by rw [he]; exact hdy⟩
   ·rw [if_neg h4] at htn
    rw [htn] at hA hB
    repeat' (first | refine go ?_ | refine mv ?_ | (refine I.ld ?_; refine ld rfl ?_) | refine asg ?_ | (refine I.fa ?_; refine fa ?_) | (refine I.nc ?_; refine nc ?_) | (refine I.bin ?_; refine cm rfl rfl ?_) | (refine I.cond ?_; refine cF ?_) | refine ex ?_ | fail)
    refine WX.callQ rfl hsc rfl ?_
    repeat' (first | refine go ?_ | refine mv ?_ | (refine I.ld ?_; refine ld rfl ?_) | (refine I.fa ?_; refine fa ?_) | (refine I.nc ?_; refine nc ?_) | (refine I.bin ?_; refine cm rfl rfl ?_) | (refine I.cond ?_; refine cN ?_) | fail)
    refine WX.call rfl (hap (lastN m)) rfl ?_
    rintro _ _ ⟨y', rfl, rfl, hdy⟩
    simp only [List.cons_append, List.nil_append]
    by_cases hE : (dk m).appE (lastN m) r.fr.length = 0
    ·obtain ⟨e1, e2, e3⟩ := hB hE
     rw [e2] at hdy
     rw [if_neg (by rw [e1]; decide)] at he
     have ok1 := okm.add1 r
     repeat' (first | refine go ?_ | refine mv ?_ | (refine I.fa ?_; refine fa ?_) | (refine I.nc ?_; refine nc ?_) | (refine I.bin ?_; first | refine cm rfl rfl ?_ | refine ad ?_) | (refine I.cond ?_; refine cN ?_) | (refine I.st ?_; refine st rfl rfl ?_) | fail)
     rw [← e3]
     exact D.round (i + 1, (ladd1 m r).1, y') ⟨by simp only []; omega, ok1, hdy, he⟩ (by simp only []; omega) (by repeat (first | exact Fsub.nil | refine Fsub.cons rfl ?_)) (Hsub.of_picks inferInstance)
    ·have e1 := hA hE
     rw [e1, if_pos (show (51 : Int) ≠ 0 by decide)] at he
     have e2 : (dk m).app (lastN m) r.fr = dk m := by unfold DkS.app; rw [if_neg hE]
     rw [e2] at hdy
     repeat' (first | refine go ?_ | refine asg ?_ | (refine I.bin ?_; refine cm rfl rfl ?_) | (refine I.cond ?_; refine cP ?_) | fail)
     exact D.fin1 [WBk w d (lastN m) torn, y', hx] _ rfl rfl ⟨y', by rw [he], by rw [he], by rw [he]; exact hdy⟩
  ·rw [ladd1_bad hc, if_pos hc] at he
   repeat' (first | refine go ?_ | (refine I.ld ?_; first | refine lA rfl ?_ | refine lF rfl (by assumption) ?_) | (refine I.bin ?_; refine cm rfl rfl ?_) | (refine I.cond ?_; refine cP ?_) | (refine I.ix ?_; refine ix rfl rfl ?_) | (refine I.st ?_; refine sG rfl rfl ?_) | refine al (fun _ => ?_) | fail)
   refine WX.call rfl hrp rfl ?_
   rintro _ _ ⟨u2, h2, rfl, rfl, hs2⟩
   simp only [List.cons_append, List.nil_append]
   repeat' (first | refine go ?_ | refine mv ?_ | refine asg ?_ | (refine I.bin ?_; refine cm rfl rfl ?_) | (refine I.cond ?_; refine cP ?_) | refine ex ?_ | fail)
   exact D.fin1 [WBk w d (lastN m) torn, y, hx] _ rfl rfl ⟨y, by rw [he], by rw [he], by rw [he]; exact hdm⟩
 ·have hlen : rs.drop i = [] := List.drop_eq_nil_of_le (by omega)
  rw [hlen] at he
  repeat' (first | refine go ?_ | refine asg ?_ | (refine I.bin ?_; refine cm rfl rfl ?_) | (refine I.cond ?_; refine cN ?_) | fail)
  exact D.fin1 [WBk w d (lastN m) torn, y, hx] _ rfl rfl ⟨y, by rw [he]; rfl, by rw [he]; rfl, by rw [he]; exact hdm⟩
end Go.Proofs.YtfcefidmdijjkaaGreat

namespace Go.Proofs.YtfcefidmdijjkaaGreat
open Go Go.Sl
def Lf.full (f : Lf) : Lf := ⟨f.n, f.rs, f.rs.length⟩
def lsync (l : List Lf) : List Lf := l.map Lf.full
theorem Lf.full_ps (f : Lf) : f.full.ps = [] := by unfold Lf.full Lf.ps; simp
theorem LOk.full {pre post : List Lf} (h : LOk (pre ++ post)) : LOk (pre.map Lf.full ++ post) where
 up := by
  have := h.up
  rw [List.pairwise_append] at this ⊢
  refine ⟨List.pairwise_map.2 this.1, this.2.1, fun a ha b hb => ?_⟩
  obtain ⟨a', ha', rfl⟩ := List.mem_map.1 ha
  exact this.2.2 a' ha' b hb
 good := fun f hf => by
  rcases List.mem_append.1 hf with hf | hf
  ·obtain ⟨a', ha', rfl⟩ := List.mem_map.1 hf
   exact h.good a' (List.mem_append_left _ ha')
  ·exact h.good f (List.mem_append_right _ hf)
 k := fun f hf => by
  rcases List.mem_append.1 hf with hf | hf
  ·obtain ⟨a', ha', rfl⟩ := List.mem_map.1 hf
   exact Nat.le_refl _
  ·exact h.k f (List.mem_append_right _ hf)
 tail := by
  have := h.tail
  rw [List.pairwise_append] at this ⊢
  refine ⟨List.pairwise_map.2 (this.1.imp fun _ hlt => absurd hlt (Nat.lt_irrefl _)), this.2.1, fun a ha b hb hlt => ?_⟩
  obtain ⟨a', ha', rfl⟩ := List.mem_map.1 ha
  exact absurd hlt (Nat.lt_irrefl _)
 lo := fun f hf => by
  rcases List.mem_append.1 hf with hf | hf
  ·obtain ⟨a', ha', rfl⟩ := List.mem_map.1 hf
   exact h.lo a' (List.mem_append_left _ ha')
  ·exact h.lo f (List.mem_append_right _ hf)
 hi := fun f hf => by
  rcases List.mem_append.1 hf with hf | hf
  ·obtain ⟨a', ha', rfl⟩ := List.mem_map.1 hf
   exact h.hi a' (List.mem_append_left _ ha')
  ·exact h.hi f (List.mem_append_right _ hf)
 used := by
  have := h.used
  rw [dk_used] at this ⊢
  simp only [List.map_append, List.sum_append, List.map_map] at this ⊢
  exact this
 len := by have := h.len; simp only [List.length_append, List.length_map] at this ⊢; exact this
theorem LOk.sync {l : List Lf} (h : LOk l) : LOk (lsync l) := by
 have := LOk.full (pre := l) (post := []) (by simpa using h)
 simpa [lsync] using this
theorem lastN_sync (l : List Lf) : lastN (lsync l) = lastN l := by
 rcases List.eq_nil_or_concat l with rfl | ⟨pre, f, rfl⟩
 ·rfl
 ·rw [List.concat_eq_append]
  unfold lsync
  rw [List.map_append, List.map_cons, List.map_nil, lastN_app, lastN_app]
  rfl
theorem ps_name {f : Lf} {p : Pc} (h : p ∈ f.ps) : p.f = f.n := by
 unfold Lf.ps at h
 obtain ⟨r, _, rfl⟩ := List.mem_map.1 h
 rfl
theorem ps_other {l : List Lf} {n : Int} (h : ∀ f ∈ l, f.n ≠ n) : ((l.map Lf.ps).flatten.filter fun p => decide (p.f ≠ n)) = (l.map Lf.ps).flatten := by
 rw [List.filter_eq_self]
 intro p hp
 obtain ⟨x, hx, hpx⟩ := List.mem_flatten.1 hp
 obtain ⟨f, hf, rfl⟩ := List.mem_map.1 hx
 rw [ps_name hpx]
 exact decide_eq_true (h f hf)
theorem ps_same {f : Lf} {n : Int} (h : f.n = n) : (f.ps.filter fun p => decide (p.f ≠ n)) = [] := by
 rw [List.filter_eq_nil_iff]
 intro p hp
 rw [ps_name hp]
 simp [h]
theorem dk_sync {pre post : List Lf} {f : Lf} (h : LUp (pre ++ f :: post)) : (dk (pre ++ f :: post)).sync f.n = dk (pre ++ f.full :: post) := by
 unfold DkS.sync
 rw [dk_find h]
 have hm := h.mid_ne
 have h1 : ∀ (l : List Lf), (∀ x ∈ l, x.n ≠ f.n) → (l.map Lf.file).map (fun x => if x.n = f.n then { x with s := x.b.length } else x) = l.map Lf.file := by
  intro l hl
  rw [List.map_map]
  apply List.map_congr_left
  intro x hx
  exact if_neg (hl x hx)
 have h2 := h1 pre fun x hx => by have := hm.1 x hx; omega
 have h3 := h1 post fun x hx => by have := hm.2 x hx; omega
 have h4 := ps_other (l := pre) (n := f.n) fun x hx => by have := hm.1 x hx; omega
 have h5 := ps_other (l := post) (n := f.n) fun x hx => by have := hm.2 x hx; omega
 simp only [Option.isNone_some, Bool.false_eq_true, if_false]
 unfold DkS.onF dk
 simp only [List.map_append, List.map_cons, h2, h3, List.flatten_append, List.flatten_cons, List.filter_append, h4, h5, ps_same rfl, Lf.full_ps, List.nil_append]
 congr 3
 have h6 : f.file.n = f.n := rfl
 refine (if_pos h6).trans ?_
 simp [Lf.file, Lf.full]
theorem dk_synced {pre post : List Lf} {f : Lf} (h : LUp (pre ++ f :: post)) : (dk (pre ++ f :: post)).synced f.n = (bytes (f.rs.take f.k)).length ∧ (dk (pre ++ f :: post)).size f.n = (bytes f.rs).length := by
 unfold DkS.synced DkS.size
 rw [dk_find h]
 exact ⟨rfl, rfl⟩
theorem full_of {f : Lf} (hg : ∀ r ∈ f.rs, r.code = 0) (hk : f.k ≤ f.rs.length) (h : ¬ (bytes (f.rs.take f.k)).length < (bytes f.rs).length) : f.full = f := by
 have h1 := bytes_take_drop f.rs f.k
 have h2 : (bytes (f.rs.drop f.k)).length = 0 := by
  have := congrArg List.length h1
  rw [List.length_append] at this; omega
 have h3 : f.rs.drop f.k = [] := by
  cases hd : f.rs.drop f.k with
  | nil => rfl
  | cons r t =>
   have := bytes_pos (rs := f.rs.drop f.k) (fun r hr => hg r (List.mem_of_mem_drop hr)) (by rw [hd]; simp)
   omega
 have h4 : f.rs.length ≤ f.k := List.drop_eq_nil_iff.1 h3
 obtain ⟨n, rs, k⟩ := f
 simp only [] at h4 hk
 unfold Lf.full
 simp only [Lf.mk.injEq, true_and]; omega
set_option maxHeartbeats 2000000 in
theorem sync_ct {l : List Lf} (ok : LOk l) {d : Nat} {h : Hp} (hd : IsDk (dk l) d h) {w : Nat} {seg torn : Int} :
  Ct Tryz.prog 62 [.pointer (some ⟨w, 0, none⟩)] [WBk w d seg torn, h] (fun res H' => ∃ h', res = .int .i64 0 ∧ H' = [WBk w d seg torn, h'] ∧ IsDk (dk (lsync l)) d h') := by
 have hfc := files_ct hd (by rw [ok.fs_len]; have := ok.len; omega)
 rw [dk_names ok] at hfc
 have hll := ok.len
 have hnl : (l.map (·.n)).length = l.length := List.length_map _
 refine Ct.mk' Tryz.func62 rfl rfl rfl (fun g R => ?_)
 try simp only [List.cons_append]
 simp only [List.nil_append]
 repeat' (first | refine go ?_ | refine mv ?_ | (refine I.ld ?_; refine ld rfl ?_) | refine asg ?_ | (refine I.fa ?_; refine fa ?_) | (refine I.nc ?_; refine nc ?_) | fail)
 refine WX.call rfl hfc rfl ?_
 rintro u _ ⟨hb, rfl, hs⟩
 have hr := hs.rs
 simp only [List.cons_append, List.nil_append]
 repeat' (first | refine go ?_ | refine mv ?_ | (refine I.bi ?_; refine ln rfl (by assumption) ?_) | fail)
 refine W.loop (α := Nat × Hp) (fun x => x.1 ≤ l.length ∧ IsDk (dk ((l.take x.1).map Lf.full ++ l.drop x.1)) d x.2)
  (fun x => [(0, .pointer (some ⟨w, 0, none⟩)), (9, u), (10, .int .i64 ((l.map (·.n)).length : Int)), (11, .int .i64 (x.1 : Int))])
  (fun x => [WBk w d seg torn, x.2, hb, R]) (fun x => l.length - x.1) (0, h) ⟨Nat.zero_le _, by simpa using hd⟩ (by repeat (first | exact Fsub.nil | refine Fsub.cons rfl ?_)) (Hsub.of_picks inferInstance) ?_
 rintro ⟨i, y⟩ ⟨hi, hdm⟩
 simp only [] at hi hdm ⊢
 by_cases hlt : i < l.length
 ·obtain ⟨f, hf⟩ : ∃ f, l[i]? = some f := ⟨_, List.getElem?_eq_getElem hlt⟩
  have hn : (l.map (·.n))[i]? = some f.n := by rw [List.getElem?_map, hf]; rfl
  have hdr : l.drop i = f :: l.drop (i + 1) := by
   rw [List.drop_eq_getElem_cons hlt, (List.getElem?_eq_some_iff.1 hf).2]
  have htk : (l.take (i + 1)).map Lf.full = (l.take i).map Lf.full ++ [f.full] := by
   rw [List.take_succ_eq_append_getElem hlt, (List.getElem?_eq_some_iff.1 hf).2, List.map_append]; rfl
  have okm : LOk ((l.take i).map Lf.full ++ l.drop i) := LOk.full (by rw [List.take_append_drop]; exact ok)
  rw [hdr] at okm hdm
  have hsc := synced_ct hdm f.n
  have hzc := size_ct hdm f.n
  have hyc := dsync_ct hdm f.n okm.loose
  obtain ⟨e1, e2⟩ := dk_synced okm.toLUp
  rw [e1] at hsc
  rw [e2] at hzc
  rw [dk_sync okm.toLUp] at hyc
  have hl1 := bytes_take_le f.rs f.k
  repeat' (first | refine go ?_ | (refine I.ld ?_; refine lE rfl (by assumption) ?_) | refine asg ?_ | (refine I.bin ?_; refine cm rfl rfl ?_) | (refine I.cond ?_; refine cP ?_) | (refine I.ix ?_; refine ix rfl rfl ?_) | fail)
  refine W.quiet Tryz.mix (by kernel_rfl) ?_
  repeat' (first | refine mv ?_ | (refine I.ld ?_; refine ld rfl ?_) | (refine I.fa ?_; refine fa ?_) | (refine I.nc ?_; refine nc ?_) | fail)
  refine WX.callQ rfl hsc rfl ?_
  repeat' (first | refine mv ?_ | (refine I.ld ?_; refine ld rfl ?_) | (refine I.fa ?_; refine fa ?_) | (refine I.nc ?_; refine nc ?_) | fail)
  refine WX.callQ rfl hzc rfl ?_
  have hnext : (l.take (i + 1)).map Lf.full ++ l.drop (i + 1) = (l.take i).map Lf.full ++ f.full :: l.drop (i + 1) := by rw [htk]; simp
  by_cases hq : (bytes (f.rs.take f.k)).length < (bytes f.rs).length
  ·repeat' (first | refine go ?_ | refine mv ?_ | (refine I.ld ?_; refine ld rfl ?_) | (refine I.fa ?_; refine fa ?_) | (refine I.nc ?_; refine nc ?_) | (refine I.bin ?_; refine cm rfl rfl ?_) | (refine I.cond ?_; refine cP ?_) | fail)
   refine WX.call rfl hyc rfl ?_
   rintro _ _ ⟨y', rfl, rfl, hdy⟩
   simp only [List.cons_append, List.nil_append]
   repeat' (first | refine go ?_ | refine mv ?_ | (refine I.bin ?_; refine ad ?_) | fail)
   exact D.round (i + 1, y') ⟨by simp only []; omega, by simp only []; rw [hnext]; exact hdy⟩ (by simp only []; omega) (by repeat (first | exact Fsub.nil | refine Fsub.cons rfl ?_)) (Hsub.of_picks inferInstance)
  ·have hfu := full_of (ok.good f (List.mem_of_getElem? hf)) (ok.k f (List.mem_of_getElem? hf)) hq
   repeat' (first | refine go ?_ | refine mv ?_ | (refine I.bin ?_; first | refine cm rfl rfl ?_ | refine ad ?_) | (refine I.cond ?_; refine cN ?_) | fail)
   exact D.round (i + 1, y) ⟨by simp only []; omega, by simp only []; rw [hnext, hfu]; exact hdm⟩ (by simp only []; omega) (by repeat (first | exact Fsub.nil | refine Fsub.cons rfl ?_)) (Hsub.of_picks inferInstance)
 ·obtain rfl : i = l.length := by omega
  rw [List.take_length, List.drop_length, List.append_nil] at hdm
  repeat' (first | refine go ?_ | refine asg ?_ | (refine I.bin ?_; refine cm rfl rfl ?_) | (refine I.cond ?_; refine cN ?_) | fail)
  exact D.fin1 [WBk w d seg torn, y] _ rfl rfl ⟨y, rfl, rfl, hdm⟩
end Go.Proofs.YtfcefidmdijjkaaGreat

namespace Go.Proofs.YtfcefidmdijjkaaGreat
open Go Go.Sl
end Go.Proofs.YtfcefidmdijjkaaGreat

namespace Go.Proofs.YtfcefidmdijjkaaGreat
open Go Go.Sl
def outF (rs : List Rec) : List Rec := rs.foldl (fun o r => if r.k = 3 then [] else o ++ [r]) []
theorem outF_snoc (rs : List Rec) (r : Rec) : outF (rs ++ [r]) = if r.k = 3 then [] else outF rs ++ [r] := by unfold outF; rw [List.foldl_append]; rfl
theorem outF_len (rs : List Rec) : (outF rs).length ≤ rs.length := by
 have h : ∀ (rs o : List Rec), (rs.foldl (fun o r => if r.k = 3 then [] else o ++ [r]) o).length ≤ o.length + rs.length := by
  intro rs
  induction rs with
  | nil => intro o; simp
  | cons r t ih =>
   intro o
   rw [List.foldl_cons]
   have := ih (if r.k = 3 then [] else o ++ [r])
   split at this
   ·rename_i h1; rw [if_pos h1]; simp only [List.length_nil, List.length_cons] at this ⊢; omega
   ·rename_i h1; rw [if_neg h1]; simp only [List.length_append, List.length_cons, List.length_nil] at this ⊢; omega
 have := h rs []
 simpa [outF] using this
theorem mem_skip {α : Type} {a b c : α} {l : List α} (h : a ∈ b :: l) : a ∈ b :: c :: l := by
 rcases List.mem_cons.1 h with rfl | h
 ·exact List.mem_cons_self ..
 ·exact List.mem_cons_of_mem _ (List.mem_cons_of_mem _ h)
theorem recs_app (a b : List Lf) : recs (a ++ b) = recs a ++ recs b := by unfold recs; simp
theorem recs_one (f : Lf) : recs [f] = f.rs := by unfold recs; simp
theorem recs_count {l : List Lf} (h : ∀ f ∈ l, ∀ r ∈ f.rs, r.code = 0) : 6 * (recs l).length ≤ (dk l).used := by
 rw [dk_used]
 unfold recs
 induction l with
 | nil => simp
 | cons f t ih =>
  have h1 := bytes_count (h f (List.mem_cons_self ..))
  have h2 := ih fun x hx => h x (List.mem_cons_of_mem _ hx)
  simp only [List.map_cons, List.flatten_cons, List.length_append, List.sum_cons]
  omega
def Short (t : List UInt8) : Prop := ∃ (r : Rec) (k : Nat), r.code = 0 ∧ k < r.fr.length ∧ t = r.fr.take k
def dkX (pre : List Lf) (x : FileP) (post : List FileP) : DkS := ⟨pre.map Lf.file ++ x :: post, []⟩
structure XOk (pre : List Lf) (x : FileP) (post : List FileP) : Prop where
 up : ((pre.map Lf.file ++ x :: post).map (·.n)).Pairwise (· < ·)
 lo : ∀ f ∈ pre.map Lf.file ++ x :: post, 0 ≤ f.n ∧ f.n ≤ 1099511627776
 good : ∀ f ∈ pre, ∀ r ∈ f.rs, r.code = 0
 full : ∀ f ∈ pre, f.full = f
 used : (dkX pre x post).used ≤ 1048576
 len : (pre.map Lf.file ++ x :: post).length ≤ 64
section
variable {pre : List Lf} {x y : FileP} {post : List FileP}
theorem XOk.ne (h : XOk pre x post) : (∀ f ∈ pre, f.n < x.n) ∧ (∀ f ∈ post, x.n < f.n) ∧ ∀ f ∈ pre, ∀ g ∈ post, f.n < g.n := by
 have := h.up
 simp only [List.map_append, List.map_cons, List.map_map] at this
 rw [List.pairwise_append, List.pairwise_cons] at this
 refine ⟨fun f hf => this.2.2 _ (List.mem_map.2 ⟨f, hf, rfl⟩) _ (List.mem_cons_self ..), fun f hf => this.2.1.1 _ (List.mem_map.2 ⟨f, hf, rfl⟩), fun f hf g hg => ?_⟩
 exact this.2.2 _ (List.mem_map.2 ⟨f, hf, rfl⟩) _ (List.mem_cons_of_mem _ (List.mem_map.2 ⟨g, hg, rfl⟩))
theorem find_at {a b : List FileP} {x : FileP} {ps : List Pc} (h : ∀ f ∈ a, f.n ≠ x.n) : (DkS.mk (a ++ x :: b) ps).find x.n = some x := by
 have hp : (a.find? fun z => decide (z.n = x.n)) = none := by
  rw [List.find?_eq_none]
  intro z hz hc
  exact h z hz (of_decide_eq_true hc)
 unfold DkS.find
 simp only [List.find?_append, hp, Option.none_or]
 rw [List.find?_cons_of_pos (by simp)]
theorem XOk.find (h : XOk pre x post) : (dkX pre x post).find x.n = some x := find_at fun f hf => by
 obtain ⟨z, hz, rfl⟩ := List.mem_map.1 hf
 have := h.ne.1 z hz
 show z.n ≠ x.n
 omega
theorem XOk.names (h : XOk pre x post) : (dkX pre x post).names = pre.map (·.n) ++ x.n :: post.map (·.n) := by
 unfold DkS.names dkX
 simp only []
 rw [sortL_sorted (h.up.imp fun hlt => by omega)]
 simp only [List.map_append, List.map_cons, List.map_map]
 rfl
theorem XOk.trunc (h : XOk pre x post) {rs : List Rec} {t : List UInt8} (hb : x.b = bytes rs ++ t) : (dkX pre x post).trunc x.n (bytes rs).length = dkX pre (Lf.file ⟨x.n, rs, rs.length⟩) post := by
 unfold DkS.trunc DkS.onF dkX
 simp only [List.map_append, List.map_cons, if_true]
 have h1 : (pre.map Lf.file).map (fun f => if f.n = x.n then { f with b := f.b.take (bytes rs).length, s := (bytes rs).length } else f) = pre.map Lf.file := by
  rw [List.map_map]
  apply List.map_congr_left
  intro z hz
  have := h.ne.1 z hz
  exact if_neg (by show ¬ z.n = x.n; omega)
 have h2 : post.map (fun f => if f.n = x.n then { f with b := f.b.take (bytes rs).length, s := (bytes rs).length } else f) = post := by
  have : post.map (fun f => if f.n = x.n then { f with b := f.b.take (bytes rs).length, s := (bytes rs).length } else f) = post.map id := by
   apply List.map_congr_left
   intro z hz
   have := h.ne.2.1 z hz
   exact if_neg (by omega)
  rw [this, List.map_id]
 rw [h1, h2]
 congr 3
 rw [hb]
 simp [Lf.file, List.take_left]
theorem XOk.size (h : XOk pre x (y :: post)) : (dkX pre x (y :: post)).size y.n = y.b.length := by
 unfold DkS.size
 have h1 : dkX pre x (y :: post) = ⟨(pre.map Lf.file ++ [x]) ++ y :: post, []⟩ := by unfold dkX; simp
 have h2 : (dkX pre x (y :: post)).find y.n = some y := by
  rw [h1]
  refine find_at fun z hz => ?_
  rcases List.mem_append.1 hz with hz | hz
  ·obtain ⟨w, hw, rfl⟩ := List.mem_map.1 hz
   have := h.ne.2.2 w hw y (List.mem_cons_self ..)
   show w.n ≠ y.n
   omega
  ·rw [List.mem_singleton.1 hz]
   have := h.ne.2.1 y (List.mem_cons_self ..)
   omega
 rw [h2]
theorem XOk.remove (h : XOk pre x (y :: post)) : (dkX pre x (y :: post)).remove y.n = dkX pre x post := by
 have h1 : dkX pre x (y :: post) = ⟨(pre.map Lf.file ++ [x]) ++ y :: post, []⟩ := by unfold dkX; simp
 have h2 : (dkX pre x (y :: post)).find y.n = some y := by
  rw [h1]
  refine find_at fun z hz => ?_
  rcases List.mem_append.1 hz with hz | hz
  ·obtain ⟨w, hw, rfl⟩ := List.mem_map.1 hz
   have := h.ne.2.2 w hw y (List.mem_cons_self ..)
   show w.n ≠ y.n
   omega
  ·rw [List.mem_singleton.1 hz]
   have := h.ne.2.1 y (List.mem_cons_self ..)
   omega
 unfold DkS.remove
 rw [h2]
 simp only [Option.isNone_some, Bool.false_eq_true, if_false]
 unfold dkX
 simp only [List.filter_append, List.filter_nil]
 congr 1
 have h3 : (pre.map Lf.file).filter (fun f => decide (f.n ≠ y.n)) = pre.map Lf.file := by
  rw [List.filter_eq_self]
  intro z hz
  obtain ⟨w, hw, rfl⟩ := List.mem_map.1 hz
  have := h.ne.2.2 w hw y (List.mem_cons_self ..)
  exact decide_eq_true (by show w.n ≠ y.n; omega)
 have h4 := h.ne.2.1 y (List.mem_cons_self ..)
 have h5 : post.filter (fun f => decide (f.n ≠ y.n)) = post := by
  rw [List.filter_eq_self]
  intro z hz
  have := h.up
  simp only [List.map_append, List.map_cons] at this
  rw [List.pairwise_append, List.pairwise_cons, List.pairwise_cons] at this
  have := this.2.1.2.1 _ (List.mem_map.2 ⟨z, hz, rfl⟩)
  exact decide_eq_true (by omega)
 rw [h3, List.filter_cons, if_pos (decide_eq_true (by omega)), List.filter_cons, if_neg (by simp), h5]
theorem XOk.drop (h : XOk pre x (y :: post)) : XOk pre x post where
 up := by
  have := h.up
  simp only [List.map_append, List.map_cons] at this ⊢
  rw [List.pairwise_append, List.pairwise_cons, List.pairwise_cons] at this
  rw [List.pairwise_append, List.pairwise_cons]
  exact ⟨this.1, ⟨fun a ha => this.2.1.1 a (List.mem_cons_of_mem _ ha), this.2.1.2.2⟩, fun a ha b hb => this.2.2 a ha b (mem_skip hb)⟩
 lo := fun f hf => h.lo f (by
  rcases List.mem_append.1 hf with hf | hf
  ·exact List.mem_append_left _ hf
  ·rcases List.mem_cons.1 hf with rfl | hf
   ·simp
   ·exact List.mem_append_right _ (List.mem_cons_of_mem _ (List.mem_cons_of_mem _ hf)))
 good := h.good
 full := h.full
 used := by
  have := h.used
  unfold DkS.used dkX at this ⊢
  simp only [List.map_append, List.map_cons, List.sum_append, List.sum_cons] at this ⊢
  omega
 len := by have := h.len; simp only [List.length_append, List.length_cons] at this ⊢; omega
theorem XOk.cut (h : XOk pre x post) {rs : List Rec} {t : List UInt8} (hb : x.b = bytes rs ++ t) : XOk pre (Lf.file ⟨x.n, rs, rs.length⟩) post where
 up := by have := h.up; simp only [List.map_append, List.map_cons] at this ⊢; exact this
 lo := fun f hf => by
  rcases List.mem_append.1 hf with hf | hf
  ·exact h.lo f (List.mem_append_left _ hf)
  ·rcases List.mem_cons.1 hf with rfl | hf
   ·exact h.lo x (by simp)
   ·exact h.lo f (List.mem_append_right _ (List.mem_cons_of_mem _ hf))
 good := h.good
 full := h.full
 used := by
  have := h.used
  unfold DkS.used dkX at this ⊢
  simp only [List.map_append, List.map_cons, List.sum_append, List.sum_cons, hb, List.length_append, Lf.file] at this ⊢
  omega
 len := by have := h.len; simpa using this
theorem XOk.last {rs : List Rec} (h : XOk pre (Lf.file ⟨x.n, rs, rs.length⟩) []) : dkX pre (Lf.file ⟨x.n, rs, rs.length⟩) [] = dk (pre ++ [⟨x.n, rs, rs.length⟩]) := by
 unfold dkX dk
 simp only [List.map_append, List.map_cons, List.map_nil, List.flatten_append, DkS.mk.injEq, true_and]
 have h1 : (pre.map Lf.ps).flatten = [] := by
  rw [List.flatten_eq_nil_iff]
  intro z hz
  obtain ⟨w, hw, rfl⟩ := List.mem_map.1 hz
  rw [← h.full w hw]
  exact w.full_ps
 rw [h1]
 simp [Lf.ps]
end
end Go.Proofs.YtfcefidmdijjkaaGreat

namespace Go.Sl
open Go
theorem W.nilH {g : World} {P : Program} {c : Code} {Q : Exit → Act → World → Prop} {n : Nat} {L : Fm} {H : HH} (h : W g P c Q n L ([] :: H)) : W g P c Q n L H := .mk fun a w ha hw => h a w ha hw
theorem D.hp {g : World} {e : Exit} {Q : Exit → Act → World → Prop} {n : Nat} {L : Fm} {H H' : HH} (eq : H = H') (h : D g Q e n L H') : D g Q e n L H := eq ▸ h
theorem D.nilH {g : World} {e : Exit} {Q : Exit → Act → World → Prop} {n : Nat} {L : Fm} {H : HH} (h : D g Q e n L ([] :: H)) : D g Q e n L H := .mk fun a w ha hw => h a w ha hw
end Go.Sl
namespace Go.Proofs.YtfcefidmdijjkaaGreat
open Go Go.Sl
theorem lastN_take {l : List Lf} {i : Nat} {f : Lf} (h : l[i]? = some f) : lastN (l.take (i + 1)) = f.n := by
 obtain ⟨h1, h2⟩ := List.getElem?_eq_some_iff.1 h
 rw [List.take_succ_eq_append_getElem h1, h2, lastN_app]
theorem recs_take {l : List Lf} {i : Nat} {f : Lf} (h : l[i]? = some f) : recs (l.take (i + 1)) = recs (l.take i) ++ f.rs := by
 obtain ⟨h1, h2⟩ := List.getElem?_eq_some_iff.1 h
 rw [List.take_succ_eq_append_getElem h1, h2, recs_app, recs_one]
set_option maxHeartbeats 4000000 in
theorem open_ct {S : DkS} {d : Nat} {h : Hp} (hd : IsDk S d h) {pre : List Lf} {ns : List Int} (hnm : S.names = pre.map (·.n) ++ ns) (hfl : S.fs.length ≤ 64) (hrd : ∀ f ∈ pre, S.readB f.n = bytes f.rs ∧ (bytes f.rs).length ≤ 1048576) (hgd : ∀ f ∈ pre, ∀ r ∈ f.rs, r.code = 0)
  (hln : (S.names).length ≤ 64) {seg torn : Int} {S' : DkS} {out : List Rec} (hcount : 6 * (recs pre).length ≤ 1048576)
  (hend : (ns = [] ∧ seg = lastN pre ∧ torn = 0 ∧ S' = S ∧ out = outF (recs pre)) ∨
   ∃ x post rs t, S = dkX pre x post ∧ XOk pre x post ∧ x.b = bytes rs ++ t ∧ x.s = x.b.length ∧ (∀ r ∈ rs, r.code = 0) ∧ Short t ∧ t ≠ [] ∧ seg = x.n ∧ torn = (t.length + (post.map (·.b.length)).sum : Nat) ∧ S' = dk (pre ++ [⟨x.n, rs, rs.length⟩]) ∧ out = outF (recs pre ++ rs)) :
  Ct Tryz.prog 47 [.pointer (some ⟨d, 0, none⟩)] [h] (fun res H' => ∃ w u h' ho, res = .tuple #[.pointer (some ⟨w, 0, none⟩), u] ∧ H' = [WBk w d seg torn, h', ho] ∧ IsDk S' d h' ∧ IsSl 106 out u ho) := by
 have hfc := files_ct hd (by omega)
 refine Ct.mk' Tryz.func47 rfl rfl rfl (fun g R => ?_)
 try simp only [List.cons_append]
 simp only [List.nil_append]
 repeat' (first | refine go ?_ | refine mv ?_ | refine asg ?_ | refine bd ?_ | refine bx rfl (fun _ => ?_) | refine W.scopeF 0 rfl ?_ | fail)
 rename_i w
 refine WX.call rfl hfc rfl ?_
 rintro u _ ⟨hb, rfl, hs⟩
 have hr := hs.rs
 obtain ⟨up, uc, rfl⟩ := hr.len
 have huc : S.names.length ≤ uc := by obtain ⟨a, cc, e, le, _⟩ := id hr; cases e; exact le
 simp only [List.cons_append, List.nil_append]
 repeat' (first | refine go ?_ | refine asg ?_ | fail)
 refine W.nilH ?_
 refine W.hp (H' := [[], h, hb, WBk w d (lastN (pre.take 0)) 0, R]) rfl ?_
 refine W.loop (α := Nat × Value × Hp) (fun x => x.1 ≤ pre.length ∧ IsSl 106 (outF (recs (pre.take x.1))) x.2.1 x.2.2)
  (fun x => [(0, .pointer (some ⟨d, 0, none⟩)), (4, .pointer (some ⟨w, 0, none⟩)), (5, x.2.1), (6, .slice up S.names.length uc), (8, .int .i64 (x.1 : Int))])
  (fun x => [x.2.2, WBk w d (lastN (pre.take x.1)) 0, h, hb, R]) (fun x => pre.length + 1 - x.1) (0, .slice none 0 0, []) ⟨Nat.zero_le _, IsSl.nil _⟩ (by repeat (first | exact Fsub.nil | refine Fsub.cons rfl ?_)) (Hsub.of_picks inferInstance) ?_
 rintro ⟨i, o, ho⟩ ⟨hi, hso⟩
 simp only [] at hi hso ⊢
 have hnl : S.names.length = pre.length + ns.length := by rw [hnm]; simp
 by_cases hC : i = pre.length ∧ ns = []
 ·obtain ⟨rfl, rfl⟩ := hC
  simp only [List.length_nil] at hnl
  rcases hend with ⟨-, rfl, rfl, rfl, rfl⟩ | ⟨x, post, rs, t, e, ox, -⟩
  ·rw [List.take_length] at hso ⊢
   repeat' (first | refine go ?_ | refine mv ?_ | refine asg ?_ | (refine I.bin ?_; refine cm rfl rfl ?_) | (refine I.cond ?_; refine cN ?_) | (refine I.bi ?_; refine ln rfl (by assumption) ?_) | fail)
   exact D.fin2 [WBk w d (lastN pre) 0, h, ho] _ rfl rfl rfl ⟨w, o, h, ho, rfl, rfl, hd, hso⟩
  ·exfalso
   subst e
   rw [ox.names] at hnm
   simp at hnm
 ·obtain ⟨n, rs, t, hnI, hrdI, hbl, hgr, hcase⟩ : ∃ n rs t, S.names[i]? = some n ∧ S.readB n = bytes rs ++ t ∧ (bytes rs ++ t).length ≤ 1048576 ∧ (∀ r ∈ rs, r.code = 0) ∧
    ((t = [] ∧ ∃ f, pre[i]? = some f ∧ f.n = n ∧ f.rs = rs) ∨ (i = pre.length ∧ ∃ x post, S = dkX pre x post ∧ XOk pre x post ∧ x.b = bytes rs ++ t ∧ x.s = x.b.length ∧ Short t ∧ t ≠ [] ∧ n = x.n ∧ seg = x.n ∧ torn = (t.length + (post.map (·.b.length)).sum : Nat) ∧ S' = dk (pre ++ [⟨x.n, rs, rs.length⟩]) ∧ out = outF (recs pre ++ rs))) := by
   by_cases hlt : i < pre.length
   ·obtain ⟨f, hf⟩ : ∃ f, pre[i]? = some f := ⟨_, List.getElem?_eq_getElem hlt⟩
    have hm := List.mem_of_getElem? hf
    refine ⟨f.n, f.rs, [], ?_, by rw [List.append_nil]; exact (hrd f hm).1, by rw [List.append_nil]; exact (hrd f hm).2, hgd f hm, .inl ⟨rfl, f, hf, rfl, rfl⟩⟩
    rw [hnm, List.getElem?_append_left (by simpa using hlt), List.getElem?_map, hf]; rfl
   ·obtain rfl : i = pre.length := by omega
    rcases hend with ⟨e, -⟩ | ⟨x, post, rs, t, e1, e2, e3, e4, e5, e6, e7, e8, e9, e10, e11⟩
    ·exact absurd ⟨rfl, e⟩ hC
    ·have hnx := e2.names
     rw [← e1, hnm] at hnx
     have hns := List.append_cancel_left hnx
     have hrb : S.readB x.n = x.b := by unfold DkS.readB; rw [e1, e2.find]
     have hub : x.b.length ≤ 1048576 := by
      have := e2.used
      unfold DkS.used dkX at this
      simp only [List.map_append, List.map_cons, List.sum_append, List.sum_cons] at this
      omega
     refine ⟨x.n, rs, t, ?_, by rw [hrb, e3], by rw [← e3]; exact hub, e5, .inr ⟨rfl, x, post, e1, e2, e3, e4, e6, e7, rfl, e8, e9, e10, e11⟩⟩
     rw [hnm, hns, List.getElem?_append_right (by simp)]; simp
  have hrl : 6 * rs.length ≤ 1048576 := by
   have := bytes_count hgr
   rw [List.length_append] at hbl; omega
  have hrt : (recs (pre.take i)).length ≤ (recs pre).length := by
   have := congrArg (fun l => (recs l).length) (List.take_append_drop i pre)
   simp only [recs_app, List.length_append] at this; omega
  have hrc := read_ct hd n (by rw [hrdI]; omega)
  rw [hrdI] at hrc
  have hil : i < S.names.length := (List.getElem?_eq_some_iff.1 hnI).1
  repeat' (first | refine go ?_ | refine mv ?_ | (refine I.ld ?_; refine lE rfl (by assumption) ?_) | (refine I.fa ?_; refine fa ?_) | (refine I.nc ?_; refine nc ?_) | (refine I.bin ?_; refine cm rfl rfl ?_) | (refine I.cond ?_; refine cP ?_) | (refine I.bi ?_; refine ln rfl (by assumption) ?_) | (refine I.ix ?_; refine ix rfl rfl ?_) | (refine I.st ?_; refine st rfl rfl ?_) | fail)
  refine WX.call rfl hrc rfl ?_
  rintro _ _ ⟨ub, hbb, rfl, rfl, hsb⟩
  have hrb := hsb.rs
  obtain ⟨bp, bc, rfl⟩ := hrb.len
  have hbc : (bytes rs ++ t).length ≤ bc := by obtain ⟨a, cc, e, le, _⟩ := id hrb; cases e; exact le
  simp only [List.cons_append, List.nil_append]
  repeat' (first | refine go ?_ | refine mv ?_ | refine asg ?_ | refine ex ?_ | fail)
  refine W.loop (α := Nat × Value × Hp) (fun x => x.1 ≤ rs.length ∧ IsSl 106 (outF (recs (pre.take i) ++ rs.take x.1)) x.2.1 x.2.2)
   (fun x => [(0, .pointer (some ⟨d, 0, none⟩)), (4, .pointer (some ⟨w, 0, none⟩)), (5, x.2.1), (6, .slice up S.names.length uc), (7, .slice bp (bytes rs ++ t).length bc), (8, .int .i64 (i : Int)), (9, .int .i64 ((bytes (rs.take x.1)).length : Int))])
   (fun x => [h, hbb, x.2.2, WBk w d n 0, hb, R]) (fun x => rs.length + 1 - x.1) (0, o, ho) ⟨Nat.zero_le _, by simpa using hso⟩ (by repeat (first | exact Fsub.nil | refine Fsub.cons rfl ?_)) (Hsub.of_picks inferInstance) ?_
  rintro ⟨j, o1, ho1⟩ ⟨hj, hso1⟩
  simp only [] at hj hso1 ⊢
  have hcl : (bytes rs ++ t).length = (bytes rs).length + t.length := List.length_append
  have hbt := bytes_take_le rs j
  by_cases hlt : j < rs.length
  ·obtain ⟨r, hrj⟩ : ∃ r, rs[j]? = some r := ⟨_, List.getElem?_eq_getElem hlt⟩
   have hrc0 := hgr r (List.mem_of_getElem? hrj)
   have hgd1 := Rec.good hrc0
   have hle := hgd1.fr_le
   have htk : rs.take (j + 1) = rs.take j ++ [r] := by rw [List.take_succ_eq_append_getElem hlt, (List.getElem?_eq_some_iff.1 hrj).2]
   have hdj : rs.drop j = r :: rs.drop (j + 1) := by rw [List.drop_eq_getElem_cons hlt, (List.getElem?_eq_some_iff.1 hrj).2]
   have hat : (bytes (rs.take (j + 1))).length = (bytes (rs.take j)).length + r.fr.length := by rw [htk, bytes_app, List.length_append]; simp [bytes]
   have hxs : (bytes rs ++ t).drop (bytes (rs.take j)).length = r.fr ++ (bytes (rs.drop (j + 1)) ++ t) := by
    rw [← bytes_take_drop rs j, List.append_assoc, List.drop_left, hdj, bytes_cons, List.append_assoc]
   have hxl : (bytes rs ++ t).length = (bytes (rs.take j)).length + (r.fr.length + (bytes (rs.drop (j + 1)) ++ t).length) := by
    have := congrArg List.length hxs
    simp only [List.length_drop, List.length_append] at this ⊢
    omega
   have hcut := hrb.cut (m := 1) (lo := (bytes (rs.take j)).length) (hi := (bytes rs ++ t).length) (mx := bc) rfl (by omega) (Nat.le_refl _) hbc
   rw [List.take_of_length_le (by rw [List.length_drop]; omega)] at hcut
   have hread := read_ok hgd1 hrc0 hxs hcut (by rw [List.length_drop]; omega)
   repeat' (first | refine go ?_ | refine mv ?_ | (refine I.bin ?_; refine cm rfl rfl ?_) | (refine I.cond ?_; refine cP ?_) | (refine I.bi ?_; refine ln rfl (by assumption) ?_) | fail)
   refine I.sl ?_
   refine WX.cutFrom (lo := (bytes (rs.take j)).length) rfl rfl (by omega) hbc rfl ?_
   refine WX.callQ rfl hread rfl ?_
   have hoc := outF_len (recs (pre.take i) ++ rs.take j)
   rw [List.length_append, List.length_take] at hoc
   by_cases hk3 : r.k = 3
   ·repeat' (first | refine go ?_ | refine mv ?_ | (refine I.ld ?_; refine ld rfl ?_) | refine asg ?_ | (refine I.fa ?_; refine fa ?_) | (refine I.bin ?_; first | refine cm rfl rfl ?_ | refine ad ?_) | (refine I.cond ?_; first | refine cF ?_ | refine cP ?_) | (refine I.st ?_; refine sG rfl rfl ?_) | refine ex ?_ | refine al (fun _ => ?_) | fail)
    refine D.as 9 (.int .i64 ((bytes (rs.take (j + 1))).length : Int)) rfl (by rw [hat]; rfl) ?_
    refine D.nilH ?_
    exact D.round (j + 1, .slice none 0 0, []) ⟨by simp only []; omega, by simp only []; rw [htk, ← List.append_assoc, outF_snoc, if_pos hk3]; exact IsSl.nil _⟩ (by simp only []; omega) (by repeat (first | exact Fsub.nil | refine Fsub.cons rfl ?_)) (Hsub.of_picks inferInstance)
   ·repeat' (first | refine go ?_ | refine mv ?_ | (refine I.ld ?_; first | refine ld rfl ?_ | refine lA rfl ?_) | refine asg ?_ | (refine I.fa ?_; refine fa ?_) | (refine I.bin ?_; first | refine cm rfl rfl ?_ | refine ad ?_) | (refine I.cond ?_; first | refine cF ?_ | refine cN ?_) | (refine I.st ?_; refine sG rfl rfl ?_) | refine ex ?_ | refine al (fun _ => ?_) | fail)
    refine I.bs ?_
    refine WX.lit (ys := [r]) rfl rfl rfl rfl rfl rfl (by decide) rfl (fun v1 h1 hs1 => ?_)
    refine WX.app rfl rfl hso1 hs1.rs rfl rfl (by decide) (by simp only [List.length_cons, List.length_nil, List.length_append] at hoc ⊢; omega) rfl (fun v2 h2 hs2 => ?_)
    repeat' (first | refine go ?_ | refine asg ?_ | fail)
    refine D.as 9 (.int .i64 ((bytes (rs.take (j + 1))).length : Int)) rfl (by rw [hat]; rfl) ?_
    exact D.round (j + 1, v2, h2) ⟨by simp only []; omega, by simp only []; rw [htk, ← List.append_assoc, outF_snoc, if_neg hk3]; exact hs2⟩ (by simp only []; omega) (by repeat (first | exact Fsub.nil | refine Fsub.cons rfl ?_)) (Hsub.of_picks inferInstance)
  ·obtain rfl : j = rs.length := by omega
   rw [List.take_length] at hso1 hbt ⊢
   rcases hcase with ⟨rfl, f, hf, rfl, rfl⟩ | ⟨rfl, x, post, rfl, ox, hxb, hxs, hsh, htn, rfl, rfl, rfl, rfl, rfl⟩
   ·simp only [List.length_nil, Nat.add_zero] at hcl
    have hip := (List.getElem?_eq_some_iff.1 hf).1
    repeat' (first | refine go ?_ | refine mv ?_ | refine asg ?_ | (refine I.bin ?_; first | refine cm rfl rfl ?_ | refine ad ?_) | (refine I.cond ?_; refine cN ?_) | (refine I.bi ?_; refine ln rfl (by assumption) ?_) | fail)
    rw [← recs_take hf] at hso1
    rw [← lastN_take hf]
    exact D.round (i + 1, o1, ho1) ⟨by simp only []; omega, hso1⟩ (by simp only []; omega) (by repeat (first | exact Fsub.nil | refine Fsub.cons rfl ?_)) (Hsub.of_picks inferInstance)
   ·obtain ⟨r, k, hrc0, hk, rfl⟩ := hsh
    have hgd1 := Rec.good hrc0
    have hle := hgd1.fr_le
    have htl : 0 < (r.fr.take k).length := List.length_pos_iff.2 htn
    have hcut := hrb.cut (m := 1) (lo := (bytes rs).length) (hi := (bytes rs ++ r.fr.take k).length) (mx := bc) rfl (by omega) (Nat.le_refl _) hbc
    rw [List.take_of_length_le (by rw [List.length_drop]; omega), List.drop_left] at hcut
    have hread := read_short hgd1 hk rfl htn hcut
    repeat' (first | refine go ?_ | refine mv ?_ | (refine I.bin ?_; refine cm rfl rfl ?_) | (refine I.cond ?_; refine cP ?_) | (refine I.bi ?_; refine ln rfl (by assumption) ?_) | fail)
    refine I.sl ?_
    refine WX.cutFrom (lo := (bytes rs).length) rfl rfl (by omega) hbc rfl ?_
    refine WX.callQ rfl hread rfl ?_
    repeat' (first | refine go ?_ | refine mv ?_ | (refine I.ld ?_; refine lE rfl (by assumption) ?_) | refine asg ?_ | (refine I.fa ?_; refine fa ?_) | (refine I.nc ?_; refine nc ?_) | (refine I.bin ?_; first | refine cm rfl rfl ?_ | refine su ?_) | (refine I.cond ?_; refine cT ?_) | (refine I.bi ?_; refine ln rfl (by assumption) ?_) | (refine I.ix ?_; refine ix rfl rfl ?_) | (refine I.st ?_; first | refine st rfl rfl ?_ | refine sG rfl rfl ?_) | refine ex ?_ | refine al (fun _ => ?_) | fail)
    have oxc := ox.cut hxb
    have htc := trunc_ct hd ox.find hxs (n := (bytes rs).length) (by rw [hxb, List.length_append]; omega) (by rw [hxb]; omega) rfl
    rw [ox.trunc hxb] at htc
    refine WX.call rfl htc rfl ?_
    rintro _ _ ⟨y0, rfl, rfl, hd0⟩
    simp only [List.cons_append, List.nil_append]
    have hnx := ox.names
    have hnxl : (dkX pre x post).names.length = pre.length + 1 + post.length := by rw [hnx]; simp; omega
    have hcn := hr.cut (m := 1) (lo := pre.length + 1) (hi := (dkX pre x post).names.length) (mx := uc) rfl (by omega) (Nat.le_refl _) huc
    have hdn : (dkX pre x post).names.drop (pre.length + 1) = post.map (·.n) := by
     rw [hnx, ← List.drop_drop, show pre.length = (pre.map (·.n)).length from (List.length_map _).symm, List.drop_left]; rfl
    rw [List.take_of_length_le (by rw [List.length_drop]; omega), hdn] at hcn
    have hpl : (post.map (·.n)).length = post.length := List.length_map _
    have hus := ox.used
    unfold DkS.used dkX at hus
    simp only [List.map_append, List.map_cons, List.sum_append, List.sum_cons, hxb, List.length_append] at hus
    repeat' (first | refine go ?_ | refine mv ?_ | (refine I.bin ?_; refine ad ?_) | fail)
    refine WX.as 84 (.int .i64 ((pre.length + 1 : Nat) : Int)) rfl rfl ?_
    refine I.sl ?_
    refine WX.cutFrom (lo := pre.length + 1) rfl rfl (by omega) huc rfl ?_
    generalize slCut (.slice up (dkX pre x post).names.length uc) 1 (pre.length + 1) (dkX pre x post).names.length uc = z at hcn ⊢
    repeat' (first | refine go ?_ | refine mv ?_ | (refine I.bi ?_; refine ln rfl (by assumption) ?_) | fail)
    have e0 : (((bytes rs ++ r.fr.take k).length : Int) - ((bytes rs).length : Int)) = (((r.fr.take k).length + ((post.take 0).map (·.b.length)).sum : Nat) : Int) := by
     simp only [List.length_append, List.take_zero, List.map_nil, List.sum_nil]; omega
    rw [e0]
    refine W.loop (α := Nat × Hp) (fun x1 => x1.1 ≤ post.length ∧ IsDk (dkX pre (Lf.file ⟨x.n, rs, rs.length⟩) (post.drop x1.1)) d x1.2 ∧ XOk pre (Lf.file ⟨x.n, rs, rs.length⟩) (post.drop x1.1))
     (fun x1 => [(0, .pointer (some ⟨d, 0, none⟩)), (4, .pointer (some ⟨w, 0, none⟩)), (5, o1), (85, z), (86, .int .i64 ((post.map (·.n)).length : Int)), (87, .int .i64 (x1.1 : Int))])
     (fun x1 => [x1.2, ho1, WBk w d x.n (((r.fr.take k).length + ((post.take x1.1).map (·.b.length)).sum : Nat) : Int), hb, R]) (fun x1 => post.length - x1.1) (0, y0) ⟨Nat.zero_le _, hd0, oxc⟩ (by repeat (first | exact Fsub.nil | refine Fsub.cons rfl ?_)) (Hsub.of_picks inferInstance) ?_
    rintro ⟨q, y1⟩ ⟨hq, hdq, oq⟩
    simp only [] at hq hdq oq ⊢
    by_cases hlt : q < post.length
    ·obtain ⟨y, hy⟩ : ∃ y, post[q]? = some y := ⟨_, List.getElem?_eq_getElem hlt⟩
     have hyn : (post.map (·.n))[q]? = some y.n := by rw [List.getElem?_map, hy]; rfl
     have hdr : post.drop q = y :: post.drop (q + 1) := by rw [List.drop_eq_getElem_cons hlt, (List.getElem?_eq_some_iff.1 hy).2]
     have htk : ((post.take (q + 1)).map (·.b.length)).sum = ((post.take q).map (·.b.length)).sum + y.b.length := by
      rw [List.take_succ_eq_append_getElem hlt, (List.getElem?_eq_some_iff.1 hy).2]; simp
     have hle2 : ((post.take (q + 1)).map (·.b.length)).sum ≤ (post.map (·.b.length)).sum := by
      have := congrArg (fun l => (l.map (fun f : FileP => f.b.length)).sum) (List.take_append_drop (q + 1) post)
      simp only [List.map_append, List.sum_append] at this; omega
     rw [hdr] at hdq oq
     have hsz := size_ct hdq y.n
     rw [oq.size] at hsz
     have hrm := dremove_ct hdq y.n (by show (0 : Nat) ≤ _; omega)
     rw [oq.remove] at hrm
     repeat' (first | refine go ?_ | (refine I.ld ?_; refine lE rfl (by assumption) ?_) | refine asg ?_ | (refine I.bin ?_; refine cm rfl rfl ?_) | (refine I.cond ?_; refine cP ?_) | (refine I.ix ?_; refine ix rfl rfl ?_) | fail)
     refine W.mix (List.replicate 6 true ++ [false, true]) [WBk w d x.n (((r.fr.take k).length + ((post.take q).map (·.b.length)).sum : Nat) : Int)] Tryz.mix (by kernel_rfl) ?_
     repeat' (first | refine go ?_ | refine mv ?_ | (refine I.ld ?_; refine ld rfl ?_) | (refine I.fa ?_; refine fa ?_) | (refine I.nc ?_; refine nc ?_) | refine mU ?_ | refine mA ?_ | fail)
     refine WX.callQ rfl hsz rfl ?_
     repeat' (first | refine go ?_ | refine mv ?_ | (refine I.fa ?_; refine fa ?_) | (refine I.nc ?_; refine nc ?_) | (refine I.bin ?_; refine ad ?_) | refine mN ?_ | refine mU ?_ | (refine I.st ?_; refine st rfl rfl ?_) | fail)
     refine WX.call rfl hrm rfl ?_
     rintro _ _ ⟨y2, rfl, rfl, hd2⟩
     simp only [List.cons_append, List.nil_append]
     repeat' (first | refine go ?_ | refine mv ?_ | (refine I.bin ?_; refine ad ?_) | fail)
     have e1 : ((((r.fr.take k).length + ((post.take q).map (·.b.length)).sum : Nat) : Int) + (y.b.length : Int)) = (((r.fr.take k).length + ((post.take (q + 1)).map (·.b.length)).sum : Nat) : Int) := by rw [htk]; omega
     rw [e1]
     exact D.round (q + 1, y2) ⟨by simp only []; omega, hd2, oq.drop⟩ (by simp only []; omega) (by repeat (first | exact Fsub.nil | refine Fsub.cons rfl ?_)) (Hsub.of_picks inferInstance)
    ·obtain rfl : q = post.length := by omega
     rw [List.drop_length] at hdq oq
     rw [List.take_length]
     rw [oq.last] at hdq
     repeat' (first | refine go ?_ | refine mv ?_ | refine asg ?_ | (refine I.bin ?_; refine cm rfl rfl ?_) | (refine I.cond ?_; refine cN ?_) | fail)
     exact D.fin2 [WBk w d x.n (((r.fr.take k).length + (post.map (·.b.length)).sum : Nat) : Int), y1, ho1] _ rfl rfl rfl ⟨w, o1, y1, ho1, rfl, rfl, hdq, by rw [← List.take_length (l := pre)]; exact hso1⟩
end Go.Proofs.YtfcefidmdijjkaaGreat

namespace Go.Proofs.YtfcefidmdijjkaaGreat
open Go Go.Sl
theorem open_whole {l : List Lf} (ok : LOk l) {d : Nat} {h : Hp} (hd : IsDk (dk l) d h) :
  Ct Tryz.prog 47 [.pointer (some ⟨d, 0, none⟩)] [h] (fun res H' => ∃ w u h' ho, res = .tuple #[.pointer (some ⟨w, 0, none⟩), u] ∧ H' = [WBk w d (lastN l) 0, h', ho] ∧ IsDk (dk l) d h' ∧ IsSl 106 (outF (recs l)) u ho) := by
 have hc := recs_count ok.good
 have hu := ok.used
 refine open_ct (pre := l) (ns := []) hd (by rw [dk_names ok, List.append_nil]) (by rw [ok.fs_len]; exact ok.len) (fun f hf => ?_) ok.good (by rw [dk_names ok, List.length_map]; exact ok.len) (by omega) (.inl ⟨rfl, rfl, rfl, rfl, rfl⟩)
 obtain ⟨a, b, rfl⟩ := List.append_of_mem hf
 refine ⟨by unfold DkS.readB; rw [dk_find ok.toLUp]; rfl, ?_⟩
 rw [dk_used] at hu
 simp only [List.map_append, List.map_cons, List.sum_append, List.sum_cons] at hu
 omega
end Go.Proofs.YtfcefidmdijjkaaGreat

namespace Go.Proofs.YtfcefidmdijjkaaGreat
open Go Go.Sl
end Go.Proofs.YtfcefidmdijjkaaGreat

namespace Go.Proofs.YtfcefidmdijjkaaGreat
open Go Go.Sl
end Go.Proofs.YtfcefidmdijjkaaGreat

namespace Go.Proofs.YtfcefidmdijjkaaGreat
open Go Go.Sl
def roomB (l : List Lf) (n : Int) : Bool := decide (0 ≤ n ∧ n ≤ 2048 ∧ l.length < 63 ∧ ((dk l).used : Int) < 1048576 - n * 512)
theorem room_ct {l : List Lf} (ok : LOk l) {d : Nat} {h : Hp} (hd : IsDk (dk l) d h) {w : Nat} {seg torn : Int} (n : Int) :
  Ct Tryz.prog 60 [.pointer (some ⟨w, 0, none⟩), .int .i64 n] [WBk w d seg torn, h] (fun res H' => res = .bool (roomB l n) ∧ H' = [WBk w d seg torn, h]) := by
 have hu1 := ok.used
 have hll := ok.len
 have hfc := files_ct hd (by rw [ok.fs_len]; omega)
 rw [dk_names ok] at hfc
 have hnl : (l.map (·.n)).length = l.length := List.length_map _
 have huc := used_ct hd (by omega)
 refine Ct.mk' Tryz.func60 rfl rfl rfl (fun g R => ?_)
 try simp only [List.cons_append]
 simp only [List.nil_append]
 unfold roomB
 by_cases h0 : 0 ≤ n
 ·by_cases h2 : n ≤ 2048
  ·repeat' (first | refine go ?_ | refine mv ?_ | (refine I.ld ?_; refine ld rfl ?_) | refine asg ?_ | (refine I.gd ?_; first | refine gy ?_ | refine gF ?_) | (refine I.fa ?_; refine fa ?_) | (refine I.nc ?_; refine nc ?_) | (refine I.bin ?_; refine cm rfl rfl ?_) | (refine I.pk ?_; refine pF ?_) | (refine I.cond ?_; refine cN ?_) | fail)
   refine WX.call rfl hfc rfl ?_
   rintro u _ ⟨hn, rfl, hs⟩
   have hr := hs.rs
   simp only [List.cons_append, List.nil_append]
   by_cases h63 : l.length < 63
   ·repeat' (first | refine mv ?_ | (refine I.ld ?_; refine ld rfl ?_) | (refine I.gd ?_; first | refine gy ?_ | refine gT ?_) | (refine I.fa ?_; refine fa ?_) | (refine I.nc ?_; refine nc ?_) | (refine I.bin ?_; refine cm rfl rfl ?_) | (refine I.bi ?_; refine ln rfl (by assumption) ?_) | fail)
    refine WX.callQ rfl huc rfl ?_
    repeat' (first | refine go ?_ | refine mv ?_ | refine asg ?_ | (refine I.gd ?_; refine gy ?_) | (refine I.bin ?_; first | refine cm rfl rfl ?_ | refine su ?_) | (refine I.pk ?_; refine pT ?_) | (refine I.bin ?_; refine WX.mul rfl rfl rfl (by omega) ?_) | fail)
    exact D.fin1 [WBk w d seg torn, h] _ rfl rfl ⟨by congr 1; rw [decide_eq_decide]; omega, rfl⟩
   ·repeat' (first | refine go ?_ | refine mv ?_ | refine asg ?_ | (refine I.gd ?_; first | refine gn ?_ | refine gF ?_) | (refine I.bin ?_; refine cm rfl rfl ?_) | (refine I.pk ?_; refine pF ?_) | (refine I.bi ?_; refine ln rfl (by assumption) ?_) | fail)
    exact D.fin1 [WBk w d seg torn, h] _ rfl rfl ⟨by rw [decide_eq_false (by omega)], rfl⟩
  ·repeat' (first | refine go ?_ | refine mv ?_ | refine asg ?_ | (refine I.gd ?_; first | refine gy ?_ | refine gF ?_) | (refine I.bin ?_; refine cm rfl rfl ?_) | (refine I.pk ?_; refine pF ?_) | (refine I.cond ?_; refine cP ?_) | fail)
   exact D.fin1 [WBk w d seg torn, h] _ rfl rfl ⟨by rw [decide_eq_false (by omega)], rfl⟩
 ·repeat' (first | refine go ?_ | refine mv ?_ | refine asg ?_ | (refine I.gd ?_; first | refine gn ?_ | refine gT ?_) | (refine I.bin ?_; refine cm rfl rfl ?_) | (refine I.pk ?_; refine pT ?_) | (refine I.cond ?_; refine cT ?_) | fail)
  exact D.fin1 [WBk w d seg torn, h] _ rfl rfl ⟨by rw [decide_eq_false (by omega)], rfl⟩
end Go.Proofs.YtfcefidmdijjkaaGreat

namespace Go.Sl
open Go
section
variable {g : World} {P : Program} {ops : Array Oper} {Q : Exit → Act → World → Prop} {n : Nat} {rest : List Oper} {L : Fm} {H : HH} {q : Bool}
variable {d : Nat} {ty : TypeId} {pos : String} {af : Array Edge} {x y : Operand} {t t' a b : Nat} {i j : Int}
theorem WX.quoN (hx : ev L x = some (.int .i64 i)) (hy : ev L y = some (.int .i64 j)) (e : i = (a : Int)) (e' : j = (b : Int)) (hb : 0 < b) (ha : a ≤ 4611686018427387904) (hd : Nat.blt d n = true)
  (k : WX q g P ops Q n rest ((d, .int .i64 ((a / b : Nat) : Int)) :: L) H) : WX q g P ops Q n (⟨some d, .binOp .quo t x y t', ty, pos, af, none⟩ :: rest) L H := by
 subst e; subst e'
 refine WX.quo hx hy hd (by omega) ?_
 have h1 : IntKind.i64.wrap ((a : Int).tdiv (b : Int)) = ((a / b : Nat) : Int) := by
  have h2 : ((a : Int).tdiv (b : Int)) = ((a / b : Nat) : Int) := rfl
  have h3 : a / b ≤ a := Nat.div_le_self _ _
  rw [h2]
  generalize a / b = c at h3 ⊢
  exact IntWalk.i64_in _ (by omega)
 rw [h1]
 exact k
end
end Go.Sl
namespace Go.Proofs.YtfcefidmdijjkaaGreat
open Go Go.Sl
end Go.Proofs.YtfcefidmdijjkaaGreat

namespace Go.Proofs.YtfcefidmdijjkaaGreat
open Go Go.Sl
theorem bytes_one (r : Rec) : bytes [r] = r.fr := by rw [bytes_cons, bytes_nil, List.append_nil]
end Go.Proofs.YtfcefidmdijjkaaGreat
