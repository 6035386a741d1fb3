/-
  Texts of one road, one behind the other.
-/
import Derived.Test.YtihaajncebdioaaGreatQZd
import Derived.Test.YtihaajncebdioaaGreatQZc
/-
  The document's own disk: Crash walks.
-/
set_option linter.unusedVariables false
set_option linter.unusedSimpArgs false
namespace Go.Proofs.YtihaajncebdioaaGreat
open Go Go.Sl

set_option maxHeartbeats 4000000 in
theorem rcrash_ct {qs : List RfQ} (ok : QOk qs) {t : Int} (ht0 : 0 ≤ t) (ht1 : t ≤ 1099511627776) (hT : ∀ x ∈ allT qs, x ≤ t) {d : Nat} {h : Hp} (hd : IsRk (qs.map RfQ.pl) t d h) {keep : Int} (hk1 : -9223372036854775808 ≤ keep) (hk2 : keep ≤ 9223372036854775807) :
    Ct Tryz.prog 20 [.pointer (some ⟨d, 0, none⟩), .int .i64 keep] [h] (fun r H' => ∃ (last : Int) (h' : Hp), r = .int .i64 (lostS qs last : Int) ∧ H' = [h'] ∧ IsRk ((qs.map fun q => q.crash last).map RfQ.pl) t d h' ∧ LastOk qs t keep.toNat last) := by
  have hll := ok.len
  have haT := allT_le ok
  obtain ⟨lv, gs, lh, hd, rfl⟩ := hd
  have hr := hd.sl.rs
  have hgl : (gs.map Gf.gp).length = qs.length := hd.len.trans (List.length_map _)
  obtain ⟨lp, lc, rfl⟩ := hr.len
  refine Ct.pack (pre := [RBk d (.slice lp (gs.map Gf.gp).length lc) t, lh, ghp gs]) (post := fun r H' => ∃ (last : Int) (gs' : List Gf), r = .int .i64 (lostS qs last : Int) ∧ H' = [RBk d (.slice lp (gs.map Gf.gp).length lc) t, lh, ghp gs'] ∧ Rk3 ((qs.map fun q => q.crash last).map RfQ.pl) (.slice lp (gs.map Gf.gp).length lc) gs' lh ∧ LastOk qs t keep.toNat last) ?_ (by simp)
    (fun r H' ⟨last, gs', e1, e2, e3, e4⟩ => ⟨[[RBk d (.slice lp (gs.map Gf.gp).length lc) t, lh, ghp gs'].flatten], by rw [e2]; simp, last, _, e1, rfl, ⟨_, gs', lh, e3, by simp⟩, e4⟩)
  refine Ct.mk' Tryz.func20 rfl rfl rfl (fun g R => ?_)
  try simp only [List.cons_append]
  simp only [List.nil_append]
  repeat' (first | refine go ?_ | refine mv ?_ | refine asg ?_ | (refine I.bi ?_; refine ma ?_) | fail)
  refine W.as 1 (.int .i64 (keep.toNat : Int)) rfl (by congr 1; split <;> omega) ?_
  refine W.nilH ?_
  refine W.loop (α := Nat × Value × Hp) (fun x => x.1 ≤ qs.length ∧ IsSl 3 (allT (qs.take x.1)) x.2.1 x.2.2) (fun x => [(0, .pointer (some ⟨d, 0, none⟩)), (1, .int .i64 (keep.toNat : Int)), (5, x.2.1), (6, .int .i64 (x.1 : Int))])
    (fun x => [x.2.2, RBk d (.slice lp (gs.map Gf.gp).length lc) t, lh, ghp gs, R]) (fun x => qs.length - x.1) (0, .slice none 0 0, []) ⟨Nat.zero_le _, IsSl.nil _⟩ (by repeat (first | exact Fsub.nil | refine Fsub.cons rfl ?_)) (Hsub.of_picks inferInstance) ?_
  rintro ⟨i, u, hu⟩ ⟨hi, hsu⟩
  simp only [] at hi hsu ⊢
  by_cases hil : i < qs.length
  · obtain ⟨q, hq⟩ : ∃ q, qs[i]? = some q := ⟨_, List.getElem?_eq_getElem hil⟩
    obtain ⟨a', g', b', e1', e3', hok', hat'⟩ := hd.nth (q_nth hq)
    have hqm := List.mem_of_getElem? hq
    have hqo := ok.ok q hqm
    have hqe := hqo.e
    have hbl := ok.bl hqm
    have hcml := RfQ.cml hqo
    have hrb := hok'.b.rs
    have hrc := hok'.c.rs
    have hgb : g'.b = q.b := congrArg RfP.b e3'
    have hgc : g'.cm = List.replicate q.s 0 ++ q.ts := congrArg RfP.cm e3'
    have hgbl : g'.b.length = q.b.length := by rw [hgb]
    have hgcl : g'.cm.length = q.b.length := by rw [hgc]; exact hcml
    have hd' : Rk3 (qs.map RfQ.pl) (.slice lp (gs.map Gf.gp).length lc) (a' ++ g' :: b') lh := by rw [← e1']; exact hd
    have hcall := rsynced_s (d := d) (t := t) hd' ok.srt (by rw [List.length_map]; omega) hgc hqo.p (by omega)
    have hTn : allT (qs.take (i + 1)) = allT (qs.take i) ++ q.ts := by
      unfold allT
      rw [List.take_succ_eq_append_getElem hil, (List.getElem?_eq_some_iff.1 hq).2, List.map_append, List.flatten_append]; simp
    have hTl : (allT (qs.take i)).length ≤ 1048576 := by
      refine Nat.le_trans ?_ haT
      unfold allT
      conv => rhs; rw [← List.take_append_drop i qs]
      rw [List.map_append, List.flatten_append, List.length_append]; omega
    refine W.flat (H' := [hu, RBk d (.slice lp (gs.map Gf.gp).length lc) t, lh, ghp a', g'.bk, g'.hb, g'.hc, ghp b', R]) (by rw [e1', ghp_split]; simp) ?_
    repeat' (first | refine go ?_ | refine mv ?_ | (refine I.ld ?_; first | refine ld rfl ?_ | refine lE rfl (by assumption) ?_) | (refine I.fa ?_; refine fa ?_) | (refine I.nc ?_; refine nc ?_) | (refine I.bin ?_; refine cm rfl rfl ?_) | (refine I.cond ?_; refine cP ?_) | (refine I.bi ?_; refine ln rfl (by assumption) ?_) | (refine I.ix ?_; refine ix rfl rfl ?_) | fail)
    refine WX.callQ rfl hcall rfl ?_
    repeat' (first | refine go ?_ | refine asg ?_ | fail)
    refine W.loop (α := Nat × Value × Hp) (fun x => x.1 ≤ q.ts.length ∧ IsSl 3 (allT (qs.take i) ++ q.ts.take x.1) x.2.1 x.2.2) (fun x => [(0, .pointer (some ⟨d, 0, none⟩)), (1, .int .i64 (keep.toNat : Int)), (5, x.2.1), (6, .int .i64 (i : Int)), (7, .int .i64 ((q.s + x.1 : Nat) : Int))])
      (fun x => [x.2.2, RBk d (.slice lp (gs.map Gf.gp).length lc) t, lh, ghp a', g'.bk, g'.hb, g'.hc, ghp b', R]) (fun x => q.ts.length - x.1) (0, u, hu) ⟨Nat.zero_le _, by simpa using hsu⟩ (by repeat (first | exact Fsub.nil | refine Fsub.cons rfl ?_)) (Hsub.of_picks inferInstance) ?_
    rintro ⟨j, w, hw⟩ ⟨hj, hsw⟩
    simp only [] at hj hsw ⊢
    by_cases hjl : j < q.ts.length
    · obtain ⟨x, hx⟩ : ∃ x, q.ts[j]? = some x := ⟨_, List.getElem?_eq_getElem hjl⟩
      have hxc : g'.cm[q.s + j]? = some x := by rw [hgc, List.getElem?_append_right (by simp)]; simpa using hx
      have hxn : q.ts.take (j + 1) = q.ts.take j ++ [x] := by rw [List.take_succ_eq_append_getElem hjl, (List.getElem?_eq_some_iff.1 hx).2]
      repeat' (first | refine go ?_ | refine mv ?_ | (refine I.ld ?_; first | refine ld rfl ?_ | refine lE rfl (by assumption) ?_) | (refine I.fa ?_; refine fa ?_) | (refine I.nc ?_; refine nc ?_) | (refine I.bin ?_; refine cm rfl rfl ?_) | (refine I.cond ?_; refine cP ?_) | (refine I.bi ?_; refine ln rfl (by assumption) ?_) | (refine I.ix ?_; refine ix rfl rfl ?_) | fail)
      refine I.bs ?_
      refine WX.lit (ys := [x]) rfl rfl rfl rfl rfl rfl (by decide) rfl (fun v1 h1 hs1 => ?_)
      refine WX.app rfl rfl hsw hs1.rs rfl rfl (by decide) (by simp only [List.length_append, List.length_take, List.length_cons, List.length_nil]; omega) rfl (fun v2 h2 hs2 => ?_)
      rw [List.append_assoc, ← hxn] at hs2
      repeat' (first | refine go ?_ | refine mv ?_ | refine asg ?_ | (refine I.bin ?_; refine ad ?_) | fail)
      exact D.round (j + 1, v2, h2) ⟨by simp only []; omega, hs2⟩ (by simp only []; omega) (by repeat (first | exact Fsub.nil | refine Fsub.cons rfl ?_)) (Hsub.of_picks inferInstance)
    · obtain rfl : j = q.ts.length := by omega
      rw [List.take_length, ← hTn] at hsw
      repeat' (first | refine go ?_ | refine mv ?_ | (refine I.ld ?_; first | refine ld rfl ?_ | refine lE rfl (by assumption) ?_) | refine asg ?_ | (refine I.fa ?_; refine fa ?_) | (refine I.nc ?_; refine nc ?_) | (refine I.bin ?_; first | refine cm rfl rfl ?_ | refine ad ?_) | (refine I.cond ?_; refine cN ?_) | (refine I.bi ?_; refine ln rfl (by assumption) ?_) | (refine I.ix ?_; refine ix rfl rfl ?_) | fail)
      refine D.flat (H' := [hw, RBk d (.slice lp (gs.map Gf.gp).length lc) t, lh, ghp gs, R]) (by rw [e1', ghp_split]; simp) ?_
      exact D.round (i + 1, w, hw) ⟨by simp only []; omega, hsw⟩ (by simp only []; omega) (by repeat (first | exact Fsub.nil | refine Fsub.cons rfl ?_)) (Hsub.of_picks inferInstance)
  · obtain rfl : i = qs.length := by omega
    rw [List.take_length] at hsu
    have hru := hsu.rs
    have hpT : ∀ x ∈ allT qs, 0 < x ∧ x ≤ 2199023255552 := fun x hx => by
      refine ⟨?_, by have := hT x hx; omega⟩
      unfold allT at hx
      obtain ⟨l, hl, hxl⟩ := List.mem_flatten.1 hx
      obtain ⟨q, hq, rfl⟩ := List.mem_map.1 hl
      exact (ok.ok q hq).p x hxl
    by_cases hkT : keep.toNat < (allT qs).length
    · repeat' (first | refine go ?_ | refine mv ?_ | (refine I.ld ?_; refine ld rfl ?_) | refine asg ?_ | (refine I.fa ?_; refine fa ?_) | (refine I.nc ?_; refine nc ?_) | (refine I.bin ?_; refine cm rfl rfl ?_) | (refine I.cond ?_; first | refine cP ?_ | refine cN ?_) | (refine I.bi ?_; refine ln rfl (by assumption) ?_) | fail)
      refine WX.call rfl (nth_ct hru (by omega) hpT hkT) rfl ?_
      rintro _ _ ⟨last, rfl, rfl, hl0, hl1, hl2⟩
      have hlast : LastOk qs t keep.toNat last := ⟨hl0, fun h => by omega, fun _ => ⟨hl1, hl2⟩⟩
      simp only [List.cons_append, List.nil_append]
      repeat' (first | refine go ?_ | refine asg ?_ | fail)
      refine W.loop (α := Nat × List Gf) (fun x => x.1 ≤ qs.length ∧ Rk3 ((crS qs last x.1).map RfQ.pl) (.slice lp (gs.map Gf.gp).length lc) x.2 lh)
        (fun x => [(0, .pointer (some ⟨d, 0, none⟩)), (8, .int .i64 last), (9, .int .i64 ((((qs.take x.1).map fun q => q.b.length - q.kp last).sum : Nat) : Int)), (10, .int .i64 (x.1 : Int))])
        (fun x => [RBk d (.slice lp (gs.map Gf.gp).length lc) t, lh, ghp x.2, R]) (fun x => qs.length - x.1) (0, gs) ⟨Nat.zero_le _, hd⟩ (by repeat (first | exact Fsub.nil | refine Fsub.cons rfl ?_)) (Hsub.of_picks inferInstance) ?_
      rintro ⟨i, gs'⟩ ⟨hi, hdi⟩
      simp only [] at hi hdi ⊢
      have hri := hdi.sl.rs
      have hgli : (gs'.map Gf.gp).length = qs.length := hdi.len.trans ((List.length_map _).trans (crS_len hi))
      have hsul := sum_take_le (fun q : RfQ => q.b.length - q.kp last) qs i
      have hsut : (qs.map fun q => q.b.length - q.kp last).sum ≤ 1048576 := by
        refine Nat.le_trans ?_ ok.used
        exact sum_map_le _ _ _ fun q _ => Nat.sub_le _ _
      by_cases hil : i < qs.length
      · obtain ⟨q, hq⟩ : ∃ q, qs[i]? = some q := ⟨_, List.getElem?_eq_getElem hil⟩
        obtain ⟨hat0, hset⟩ := crS_at (last := last) hq
        obtain ⟨a, y0, b, rfl, e, hal⟩ := hdi.nthL (q_nth hat0)
        obtain ⟨hok, hatm⟩ := hdi.me
        rw [hal] at hatm
        have hqm := List.mem_of_getElem? hq
        have hqo := ok.ok q hqm
        have hbl := ok.bl hqm
        have hcml := RfQ.cml hqo
        have hkp := RfQ.kp_le hqo last
        have hrb := hok.b.rs
        have hbb : y0.b = q.b := congrArg RfP.b e
        have hnn : y0.n = q.n := congrArg RfP.n e
        have hbbl : y0.b.length = q.b.length := by rw [hbb]
        have hcm : y0.cm = List.replicate q.s (0 : Int) ++ q.ts := congrArg RfP.cm e
        have hcml2 : y0.cm.length = q.b.length := by rw [hcm]; exact hcml
        have hsn : ((qs.take (i + 1)).map fun q => q.b.length - q.kp last).sum = ((qs.take i).map fun q => q.b.length - q.kp last).sum + (q.b.length - q.kp last) := by
          rw [List.take_succ_eq_append_getElem hil, (List.getElem?_eq_some_iff.1 hq).2]; simp
        refine W.flat (H' := [RBk d (.slice lp (gs.map Gf.gp).length lc) t, lh, ghp a, y0.bk, y0.hb, y0.hc, ghp b, R]) (by rw [ghp_split]; simp) ?_
        repeat' (first | refine go ?_ | refine mv ?_ | (refine I.ld ?_; first | refine ld rfl ?_ | refine lE rfl (by assumption) ?_) | refine asg ?_ | (refine I.fa ?_; refine fa ?_) | (refine I.nc ?_; refine nc ?_) | (refine I.bin ?_; refine cm rfl rfl ?_) | (refine I.cond ?_; refine cP ?_) | (refine I.bi ?_; refine ln rfl (by assumption) ?_) | (refine I.ix ?_; refine ix rfl rfl ?_) | fail)
        refine W.loop (α := Nat × Hp) (fun x => x.1 ≤ q.kp last ∧ IsSl 3 (List.replicate x.1 (0 : Int) ++ y0.cm.drop x.1) (.slice y0.pc y0.lc y0.cc) x.2)
          (fun x => [(0, .pointer (some ⟨d, 0, none⟩)), (8, .int .i64 last), (9, .int .i64 ((((qs.take i).map fun q => q.b.length - q.kp last).sum : Nat) : Int)), (10, .int .i64 (i : Int)), (11, .pointer (some ⟨y0.blk, 0, none⟩)), (12, .int .i64 (x.1 : Int))])
          (fun x => [RBk d (.slice lp (gs.map Gf.gp).length lc) t, lh, ghp a, y0.bk, y0.hb, x.2, ghp b, R]) (fun x => q.kp last + 1 - x.1) (0, y0.hc) ⟨Nat.zero_le _, by simpa using hok.c⟩ (by repeat (first | exact Fsub.nil | refine Fsub.cons rfl ?_)) (Hsub.of_picks inferInstance) ?_
        rintro ⟨n, hc'⟩ ⟨hn, hsc⟩
        simp only [] at hn hsc ⊢
        have hrc := hsc.rs
        have hln : (List.replicate n (0 : Int) ++ y0.cm.drop n).length = y0.cm.length := by rw [List.length_append, List.length_replicate, List.length_drop]; omega
        have hcx : ∀ x, (List.replicate n (0 : Int) ++ y0.cm.drop n)[n]? = some x → (List.replicate q.s (0 : Int) ++ q.ts)[n]? = some x := fun x hx => by
          rw [List.getElem?_append_right (by simp), List.length_replicate, Nat.sub_self, List.getElem?_drop, Nat.add_zero, hcm] at hx
          exact hx
        by_cases hnk : n < q.kp last
        · obtain ⟨x, hx⟩ : ∃ x, (List.replicate n (0 : Int) ++ y0.cm.drop n)[n]? = some x := ⟨_, List.getElem?_eq_getElem (by omega)⟩
          have hxl := (RfQ.at hqo hlast.1 (hcx x hx)).1 hnk
          have hst := rep_step (cm := y0.cm) (k := n) (by omega)
          repeat' (first | refine go ?_ | refine mv ?_ | (refine I.ld ?_; first | refine ld rfl ?_ | refine lE rfl (by assumption) ?_) | (refine I.gd ?_; first | refine gy ?_ | refine gT ?_) | (refine I.fa ?_; refine fa ?_) | (refine I.nc ?_; refine nc ?_) | (refine I.bin ?_; refine cm rfl rfl ?_) | (refine I.pk ?_; refine pT ?_) | (refine I.cond ?_; refine cP ?_) | (refine I.bi ?_; refine ln rfl (by assumption) ?_) | (refine I.ix ?_; refine ix rfl rfl ?_) | fail)
          refine I.st ?_
          refine WX.storeE (y' := (0 : Int)) (vs := [.int .i64 0]) rfl rfl rfl hsc hx rfl rfl rfl rfl rfl (fun h2 hs2 => ?_)
          rw [hst] at hs2
          repeat' (first | refine go ?_ | refine mv ?_ | refine asg ?_ | (refine I.bin ?_; refine ad ?_) | fail)
          exact D.round (n + 1, h2) ⟨by simp only []; omega, hs2⟩ (by simp only []; omega) (by repeat (first | exact Fsub.nil | refine Fsub.cons rfl ?_)) (Hsub.of_picks inferInstance)
        · obtain rfl : n = q.kp last := by omega
          have hb2 := hok.b.to (m := q.kp last) (by omega)
          have hc2 := hsc.to (m := q.kp last) (by omega)
          rw [List.take_left' (by simp)] at hc2
          have hnew := hdi.put (y1 := ⟨y0.n, y0.b.take (q.kp last), List.replicate (q.kp last) 0, y0.blk, y0.pb, q.kp last, y0.cb, y0.hb, y0.pc, q.kp last, y0.cc, hc'⟩) rfl ⟨hb2, hc2, by simp only [List.length_replicate, List.length_take]; omega⟩
          rw [q_split hat0 hdi.split.symm hal (q1 := q.crash last) (by unfold Gf.pl RfQ.pl RfQ.crash RfQ.cut; simp [hnn, hbb]), hset] at hnew
          by_cases hnb : q.kp last < q.b.length
          · obtain ⟨x, hx⟩ : ∃ x, (List.replicate (q.kp last) (0 : Int) ++ y0.cm.drop (q.kp last))[q.kp last]? = some x := ⟨_, List.getElem?_eq_getElem (by omega)⟩
            have hxl := (RfQ.at hqo hlast.1 (hcx x hx)).2 rfl
            repeat' (first | refine go ?_ | refine mv ?_ | (refine I.ld ?_; first | refine ld rfl ?_ | refine lE rfl (by assumption) ?_) | refine asg ?_ | (refine I.gd ?_; first | refine gy ?_ | refine gT ?_) | (refine I.fa ?_; refine fa ?_) | (refine I.nc ?_; refine nc ?_) | (refine I.bin ?_; first | refine cm rfl rfl ?_ | refine ad ?_ | refine su ?_) | (refine I.pk ?_; refine pT ?_) | (refine I.cond ?_; refine cN ?_) | (refine I.bi ?_; refine ln rfl (by assumption) ?_) | (refine I.ix ?_; refine ix rfl rfl ?_) | (refine I.st ?_; refine st rfl rfl ?_) | refine sl rfl rfl (by assumption) ?_ | fail)
            refine D.as 9 (.int .i64 ((((qs.take (i + 1)).map fun q => q.b.length - q.kp last).sum : Nat) : Int)) rfl (by rw [hsn]; congr 1; omega) ?_
            refine D.flat (H' := [RBk d (.slice lp (gs.map Gf.gp).length lc) t, lh, ghp (a ++ ⟨y0.n, y0.b.take (q.kp last), List.replicate (q.kp last) 0, y0.blk, y0.pb, q.kp last, y0.cb, y0.hb, y0.pc, q.kp last, y0.cc, hc'⟩ :: b), R]) (by rw [ghp_split]; simp [slTo]) ?_
            exact D.round (i + 1, a ++ ⟨y0.n, y0.b.take (q.kp last), List.replicate (q.kp last) 0, y0.blk, y0.pb, q.kp last, y0.cb, y0.hb, y0.pc, q.kp last, y0.cc, hc'⟩ :: b) ⟨by simp only []; omega, hnew⟩ (by simp only []; omega) (by repeat (first | exact Fsub.nil | refine Fsub.cons rfl ?_)) (Hsub.of_picks inferInstance)
          · skip
            repeat' (first | refine go ?_ | refine mv ?_ | (refine I.ld ?_; refine ld rfl ?_) | refine asg ?_ | (refine I.gd ?_; first | refine gn ?_ | refine gF ?_) | (refine I.fa ?_; refine fa ?_) | (refine I.nc ?_; refine nc ?_) | (refine I.bin ?_; first | refine cm rfl rfl ?_ | refine ad ?_ | refine su ?_) | (refine I.pk ?_; refine pF ?_) | (refine I.cond ?_; refine cF ?_) | (refine I.bi ?_; refine ln rfl (by assumption) ?_) | (refine I.st ?_; refine st rfl rfl ?_) | refine sl rfl rfl (by assumption) ?_ | fail)
            refine D.as 9 (.int .i64 ((((qs.take (i + 1)).map fun q => q.b.length - q.kp last).sum : Nat) : Int)) rfl (by rw [hsn]; congr 1; omega) ?_
            refine D.flat (H' := [RBk d (.slice lp (gs.map Gf.gp).length lc) t, lh, ghp (a ++ ⟨y0.n, y0.b.take (q.kp last), List.replicate (q.kp last) 0, y0.blk, y0.pb, q.kp last, y0.cb, y0.hb, y0.pc, q.kp last, y0.cc, hc'⟩ :: b), R]) (by rw [ghp_split]; simp [slTo]) ?_
            exact D.round (i + 1, a ++ ⟨y0.n, y0.b.take (q.kp last), List.replicate (q.kp last) 0, y0.blk, y0.pb, q.kp last, y0.cb, y0.hb, y0.pc, q.kp last, y0.cc, hc'⟩ :: b) ⟨by simp only []; omega, hnew⟩ (by simp only []; omega) (by repeat (first | exact Fsub.nil | refine Fsub.cons rfl ?_)) (Hsub.of_picks inferInstance)
      · obtain rfl : i = qs.length := by omega
        have hfin : crS qs last qs.length = qs.map (fun q => q.crash last) := by unfold crS; rw [List.take_length, List.drop_length, List.append_nil]
        rw [hfin] at hdi
        rw [List.take_length]
        repeat' (first | refine go ?_ | refine mv ?_ | (refine I.ld ?_; refine ld rfl ?_) | refine asg ?_ | (refine I.fa ?_; refine fa ?_) | (refine I.nc ?_; refine nc ?_) | (refine I.bin ?_; refine cm rfl rfl ?_) | (refine I.cond ?_; refine cN ?_) | (refine I.bi ?_; refine ln rfl (by assumption) ?_) | fail)
        exact D.fin1 [RBk d (.slice lp (gs.map Gf.gp).length lc) t, lh, ghp gs'] _ rfl rfl ⟨last, gs', rfl, rfl, hdi, hlast⟩
    · obtain ⟨last, hlt⟩ : ∃ last, last = t := ⟨t, rfl⟩
      have hlast : LastOk qs t keep.toNat last := ⟨by omega, fun _ => hlt, fun h => absurd h hkT⟩
      repeat' (first | refine go ?_ | refine mv ?_ | (refine I.ld ?_; refine ld rfl ?_) | refine asg ?_ | (refine I.fa ?_; refine fa ?_) | (refine I.nc ?_; refine nc ?_) | (refine I.bin ?_; refine cm rfl rfl ?_) | (refine I.cond ?_; refine cN ?_) | (refine I.bi ?_; refine ln rfl (by assumption) ?_) | fail)
      refine W.as 8 (.int .i64 last) rfl (by rw [hlt]) ?_
      refine W.loop (α := Nat × List Gf) (fun x => x.1 ≤ qs.length ∧ Rk3 ((crS qs last x.1).map RfQ.pl) (.slice lp (gs.map Gf.gp).length lc) x.2 lh)
        (fun x => [(0, .pointer (some ⟨d, 0, none⟩)), (8, .int .i64 last), (9, .int .i64 ((((qs.take x.1).map fun q => q.b.length - q.kp last).sum : Nat) : Int)), (10, .int .i64 (x.1 : Int))])
        (fun x => [RBk d (.slice lp (gs.map Gf.gp).length lc) t, lh, ghp x.2, R]) (fun x => qs.length - x.1) (0, gs) ⟨Nat.zero_le _, hd⟩ (by repeat (first | exact Fsub.nil | refine Fsub.cons rfl ?_)) (Hsub.of_picks inferInstance) ?_
      rintro ⟨i, gs'⟩ ⟨hi, hdi⟩
      simp only [] at hi hdi ⊢
      have hri := hdi.sl.rs
      have hgli : (gs'.map Gf.gp).length = qs.length := hdi.len.trans ((List.length_map _).trans (crS_len hi))
      have hsul := sum_take_le (fun q : RfQ => q.b.length - q.kp last) qs i
      have hsut : (qs.map fun q => q.b.length - q.kp last).sum ≤ 1048576 := by
        refine Nat.le_trans ?_ ok.used
        exact sum_map_le _ _ _ fun q _ => Nat.sub_le _ _
      by_cases hil : i < qs.length
      · obtain ⟨q, hq⟩ : ∃ q, qs[i]? = some q := ⟨_, List.getElem?_eq_getElem hil⟩
        obtain ⟨hat0, hset⟩ := crS_at (last := last) hq
        obtain ⟨a, y0, b, rfl, e, hal⟩ := hdi.nthL (q_nth hat0)
        obtain ⟨hok, hatm⟩ := hdi.me
        rw [hal] at hatm
        have hqm := List.mem_of_getElem? hq
        have hqo := ok.ok q hqm
        have hbl := ok.bl hqm
        have hcml := RfQ.cml hqo
        have hkp := RfQ.kp_le hqo last
        have hrb := hok.b.rs
        have hbb : y0.b = q.b := congrArg RfP.b e
        have hnn : y0.n = q.n := congrArg RfP.n e
        have hbbl : y0.b.length = q.b.length := by rw [hbb]
        have hcm : y0.cm = List.replicate q.s (0 : Int) ++ q.ts := congrArg RfP.cm e
        have hcml2 : y0.cm.length = q.b.length := by rw [hcm]; exact hcml
        have hsn : ((qs.take (i + 1)).map fun q => q.b.length - q.kp last).sum = ((qs.take i).map fun q => q.b.length - q.kp last).sum + (q.b.length - q.kp last) := by
          rw [List.take_succ_eq_append_getElem hil, (List.getElem?_eq_some_iff.1 hq).2]; simp
        refine W.flat (H' := [RBk d (.slice lp (gs.map Gf.gp).length lc) t, lh, ghp a, y0.bk, y0.hb, y0.hc, ghp b, R]) (by rw [ghp_split]; simp) ?_
        repeat' (first | refine go ?_ | refine mv ?_ | (refine I.ld ?_; first | refine ld rfl ?_ | refine lE rfl (by assumption) ?_) | refine asg ?_ | (refine I.fa ?_; refine fa ?_) | (refine I.nc ?_; refine nc ?_) | (refine I.bin ?_; refine cm rfl rfl ?_) | (refine I.cond ?_; refine cP ?_) | (refine I.bi ?_; refine ln rfl (by assumption) ?_) | (refine I.ix ?_; refine ix rfl rfl ?_) | fail)
        refine W.loop (α := Nat × Hp) (fun x => x.1 ≤ q.kp last ∧ IsSl 3 (List.replicate x.1 (0 : Int) ++ y0.cm.drop x.1) (.slice y0.pc y0.lc y0.cc) x.2)
          (fun x => [(0, .pointer (some ⟨d, 0, none⟩)), (8, .int .i64 last), (9, .int .i64 ((((qs.take i).map fun q => q.b.length - q.kp last).sum : Nat) : Int)), (10, .int .i64 (i : Int)), (11, .pointer (some ⟨y0.blk, 0, none⟩)), (12, .int .i64 (x.1 : Int))])
          (fun x => [RBk d (.slice lp (gs.map Gf.gp).length lc) t, lh, ghp a, y0.bk, y0.hb, x.2, ghp b, R]) (fun x => q.kp last + 1 - x.1) (0, y0.hc) ⟨Nat.zero_le _, by simpa using hok.c⟩ (by repeat (first | exact Fsub.nil | refine Fsub.cons rfl ?_)) (Hsub.of_picks inferInstance) ?_
        rintro ⟨n, hc'⟩ ⟨hn, hsc⟩
        simp only [] at hn hsc ⊢
        have hrc := hsc.rs
        have hln : (List.replicate n (0 : Int) ++ y0.cm.drop n).length = y0.cm.length := by rw [List.length_append, List.length_replicate, List.length_drop]; omega
        have hcx : ∀ x, (List.replicate n (0 : Int) ++ y0.cm.drop n)[n]? = some x → (List.replicate q.s (0 : Int) ++ q.ts)[n]? = some x := fun x hx => by
          rw [List.getElem?_append_right (by simp), List.length_replicate, Nat.sub_self, List.getElem?_drop, Nat.add_zero, hcm] at hx
          exact hx
        by_cases hnk : n < q.kp last
        · obtain ⟨x, hx⟩ : ∃ x, (List.replicate n (0 : Int) ++ y0.cm.drop n)[n]? = some x := ⟨_, List.getElem?_eq_getElem (by omega)⟩
          have hxl := (RfQ.at hqo hlast.1 (hcx x hx)).1 hnk
          have hst := rep_step (cm := y0.cm) (k := n) (by omega)
          repeat' (first | refine go ?_ | refine mv ?_ | (refine I.ld ?_; first | refine ld rfl ?_ | refine lE rfl (by assumption) ?_) | (refine I.gd ?_; first | refine gy ?_ | refine gT ?_) | (refine I.fa ?_; refine fa ?_) | (refine I.nc ?_; refine nc ?_) | (refine I.bin ?_; refine cm rfl rfl ?_) | (refine I.pk ?_; refine pT ?_) | (refine I.cond ?_; refine cP ?_) | (refine I.bi ?_; refine ln rfl (by assumption) ?_) | (refine I.ix ?_; refine ix rfl rfl ?_) | fail)
          refine I.st ?_
          refine WX.storeE (y' := (0 : Int)) (vs := [.int .i64 0]) rfl rfl rfl hsc hx rfl rfl rfl rfl rfl (fun h2 hs2 => ?_)
          rw [hst] at hs2
          repeat' (first | refine go ?_ | refine mv ?_ | refine asg ?_ | (refine I.bin ?_; refine ad ?_) | fail)
          exact D.round (n + 1, h2) ⟨by simp only []; omega, hs2⟩ (by simp only []; omega) (by repeat (first | exact Fsub.nil | refine Fsub.cons rfl ?_)) (Hsub.of_picks inferInstance)
        · obtain rfl : n = q.kp last := by omega
          have hb2 := hok.b.to (m := q.kp last) (by omega)
          have hc2 := hsc.to (m := q.kp last) (by omega)
          rw [List.take_left' (by simp)] at hc2
          have hnew := hdi.put (y1 := ⟨y0.n, y0.b.take (q.kp last), List.replicate (q.kp last) 0, y0.blk, y0.pb, q.kp last, y0.cb, y0.hb, y0.pc, q.kp last, y0.cc, hc'⟩) rfl ⟨hb2, hc2, by simp only [List.length_replicate, List.length_take]; omega⟩
          rw [q_split hat0 hdi.split.symm hal (q1 := q.crash last) (by unfold Gf.pl RfQ.pl RfQ.crash RfQ.cut; simp [hnn, hbb]), hset] at hnew
          by_cases hnb : q.kp last < q.b.length
          · obtain ⟨x, hx⟩ : ∃ x, (List.replicate (q.kp last) (0 : Int) ++ y0.cm.drop (q.kp last))[q.kp last]? = some x := ⟨_, List.getElem?_eq_getElem (by omega)⟩
            have hxl := (RfQ.at hqo hlast.1 (hcx x hx)).2 rfl
            repeat' (first | refine go ?_ | refine mv ?_ | (refine I.ld ?_; first | refine ld rfl ?_ | refine lE rfl (by assumption) ?_) | refine asg ?_ | (refine I.gd ?_; first | refine gy ?_ | refine gT ?_) | (refine I.fa ?_; refine fa ?_) | (refine I.nc ?_; refine nc ?_) | (refine I.bin ?_; first | refine cm rfl rfl ?_ | refine ad ?_ | refine su ?_) | (refine I.pk ?_; refine pT ?_) | (refine I.cond ?_; refine cN ?_) | (refine I.bi ?_; refine ln rfl (by assumption) ?_) | (refine I.ix ?_; refine ix rfl rfl ?_) | (refine I.st ?_; refine st rfl rfl ?_) | refine sl rfl rfl (by assumption) ?_ | fail)
            refine D.as 9 (.int .i64 ((((qs.take (i + 1)).map fun q => q.b.length - q.kp last).sum : Nat) : Int)) rfl (by rw [hsn]; congr 1; omega) ?_
            refine D.flat (H' := [RBk d (.slice lp (gs.map Gf.gp).length lc) t, lh, ghp (a ++ ⟨y0.n, y0.b.take (q.kp last), List.replicate (q.kp last) 0, y0.blk, y0.pb, q.kp last, y0.cb, y0.hb, y0.pc, q.kp last, y0.cc, hc'⟩ :: b), R]) (by rw [ghp_split]; simp [slTo]) ?_
            exact D.round (i + 1, a ++ ⟨y0.n, y0.b.take (q.kp last), List.replicate (q.kp last) 0, y0.blk, y0.pb, q.kp last, y0.cb, y0.hb, y0.pc, q.kp last, y0.cc, hc'⟩ :: b) ⟨by simp only []; omega, hnew⟩ (by simp only []; omega) (by repeat (first | exact Fsub.nil | refine Fsub.cons rfl ?_)) (Hsub.of_picks inferInstance)
          · skip
            repeat' (first | refine go ?_ | refine mv ?_ | (refine I.ld ?_; refine ld rfl ?_) | refine asg ?_ | (refine I.gd ?_; first | refine gn ?_ | refine gF ?_) | (refine I.fa ?_; refine fa ?_) | (refine I.nc ?_; refine nc ?_) | (refine I.bin ?_; first | refine cm rfl rfl ?_ | refine ad ?_ | refine su ?_) | (refine I.pk ?_; refine pF ?_) | (refine I.cond ?_; refine cF ?_) | (refine I.bi ?_; refine ln rfl (by assumption) ?_) | (refine I.st ?_; refine st rfl rfl ?_) | refine sl rfl rfl (by assumption) ?_ | fail)
            refine D.as 9 (.int .i64 ((((qs.take (i + 1)).map fun q => q.b.length - q.kp last).sum : Nat) : Int)) rfl (by rw [hsn]; congr 1; omega) ?_
            refine D.flat (H' := [RBk d (.slice lp (gs.map Gf.gp).length lc) t, lh, ghp (a ++ ⟨y0.n, y0.b.take (q.kp last), List.replicate (q.kp last) 0, y0.blk, y0.pb, q.kp last, y0.cb, y0.hb, y0.pc, q.kp last, y0.cc, hc'⟩ :: b), R]) (by rw [ghp_split]; simp [slTo]) ?_
            exact D.round (i + 1, a ++ ⟨y0.n, y0.b.take (q.kp last), List.replicate (q.kp last) 0, y0.blk, y0.pb, q.kp last, y0.cb, y0.hb, y0.pc, q.kp last, y0.cc, hc'⟩ :: b) ⟨by simp only []; omega, hnew⟩ (by simp only []; omega) (by repeat (first | exact Fsub.nil | refine Fsub.cons rfl ?_)) (Hsub.of_picks inferInstance)
      · obtain rfl : i = qs.length := by omega
        have hfin : crS qs last qs.length = qs.map (fun q => q.crash last) := by unfold crS; rw [List.take_length, List.drop_length, List.append_nil]
        rw [hfin] at hdi
        rw [List.take_length]
        repeat' (first | refine go ?_ | refine mv ?_ | (refine I.ld ?_; refine ld rfl ?_) | refine asg ?_ | (refine I.fa ?_; refine fa ?_) | (refine I.nc ?_; refine nc ?_) | (refine I.bin ?_; refine cm rfl rfl ?_) | (refine I.cond ?_; refine cN ?_) | (refine I.bi ?_; refine ln rfl (by assumption) ?_) | fail)
        exact D.fin1 [RBk d (.slice lp (gs.map Gf.gp).length lc) t, lh, ghp gs'] _ rfl rfl ⟨last, gs', rfl, rfl, hdi, hlast⟩
end Go.Proofs.YtihaajncebdioaaGreat

/-
  A log on the document's own disk, in plain Lean.
-/
set_option linter.unusedVariables false
set_option linter.unusedSimpArgs false
namespace Go.Proofs.YtihaajncebdioaaGreat
open Go Go.Sl

def Lf.s7 (f : Lf) : Nat := (bytes (f.rs.take f.k)).length
def Lf.q (f : Lf) (ts : List Int) : RfQ := ⟨f.n, bytes f.rs, f.s7, ts⟩
/-- A file of a log is this file of the document's own disk. -/
structure FR (f : Lf) (q : RfQ) : Prop where
  n : q.n = f.n
  b : q.b = bytes f.rs
  s : q.s = f.s7
  e : q.s + q.ts.length = q.b.length
inductive All2 {α β : Type} (R : α → β → Prop) : List α → List β → Prop
  | nil : All2 R [] []
  | cons {a : α} {b : β} {l : List α} {m : List β} (h : R a b) (t : All2 R l m) : All2 R (a :: l) (b :: m)
theorem All2.len {α β : Type} {R : α → β → Prop} {l : List α} {m : List β} (h : All2 R l m) : l.length = m.length := by
  induction h with
  | nil => rfl
  | cons _ _ ih => simp [ih]
theorem All2.app {α β : Type} {R : α → β → Prop} {l l' : List α} {m m' : List β} (h : All2 R l m) (k : All2 R l' m') : All2 R (l ++ l') (m ++ m') := by
  induction h with
  | nil => exact k
  | cons a _ ih => exact .cons a ih
theorem All2.map_eq {α β γ : Type} {R : α → β → Prop} {f : α → γ} {f' : β → γ} (hf : ∀ a b, R a b → f' b = f a) {l : List α} {m : List β} (h : All2 R l m) : m.map f' = l.map f := by
  induction h with
  | nil => rfl
  | cons a _ ih => rw [List.map_cons, List.map_cons, ih, hf _ _ a]
theorem All2.get {α β : Type} {R : α → β → Prop} {l : List α} {m : List β} (h : All2 R l m) {i : Nat} {a : α} {b : β} (ha : l[i]? = some a) (hb : m[i]? = some b) : R a b := by
  induction h generalizing i with
  | nil => simp at ha
  | cons x _ ih =>
    cases i with
    | zero => cases ha; cases hb; exact x
    | succ i => exact ih (by simpa using ha) (by simpa using hb)
theorem All2.snoc_inv {α β : Type} {R : α → β → Prop} {l : List α} {a : α} {m : List β} (h : All2 R (l ++ [a]) m) : ∃ m' b, m = m' ++ [b] ∧ All2 R l m' ∧ R a b := by
  induction l generalizing m with
  | nil =>
    cases h with
    | cons x t => cases t; exact ⟨[], _, rfl, .nil, x⟩
  | cons y r ih =>
    cases h with
    | cons x t =>
      obtain ⟨m', b, rfl, h1, h2⟩ := ih t
      exact ⟨_ :: m', b, rfl, .cons x h1, h2⟩
/-- A log, on the document's own disk. -/
structure LR (l : List Lf) (qs : List RfQ) (t : Int) : Prop where
  m : All2 FR l qs
  inc : (allT qs).Pairwise (· < ·)
  pos : ∀ x ∈ allT qs, 0 < x ∧ x ≤ t
  t0 : 0 ≤ t
section
variable {l : List Lf} {qs : List RfQ} {t : Int}
theorem mem_allT {qs : List RfQ} {q : RfQ} (hq : q ∈ qs) {x : Int} (hx : x ∈ q.ts) : x ∈ allT qs := List.mem_flatten.2 ⟨q.ts, List.mem_map.2 ⟨q, hq, rfl⟩, hx⟩
theorem LR.names (h : LR l qs t) : qs.map (·.n) = l.map (·.n) := h.m.map_eq fun _ _ x => x.n
theorem LR.lens (h : LR l qs t) : (qs.map fun q => q.b.length) = l.map fun f => (bytes f.rs).length := h.m.map_eq fun _ _ x => by rw [x.b]
theorem LR.fr (h : LR l qs t) {q : RfQ} (hq : q ∈ qs) : ∃ f ∈ l, FR f q := by
  obtain ⟨i, hi⟩ := List.mem_iff_getElem?.1 hq
  have hlt := (List.getElem?_eq_some_iff.1 hi).1
  have hl := h.m.len
  refine ⟨l[i], List.getElem_mem (by omega), h.m.get (List.getElem?_eq_getElem (by omega)) hi⟩
theorem LR.q (h : LR l qs t) (ok : LUp l) : QOk qs where
  up := by rw [h.names]; exact List.pairwise_map.2 ok.up
  ok := fun q hq => by
    obtain ⟨f, _, hf⟩ := h.fr hq
    exact ⟨hf.e, fun x hx => (h.pos x (mem_allT hq hx)).1⟩
  used := by rw [h.lens]; have := ok.used; rw [dk_used] at this; exact this
  len := by have := ok.len; rw [h.m.len] at this; exact this
theorem LR.used (h : LR l qs t) : used7 qs = (dk l).used := by unfold used7; rw [h.lens, dk_used]
theorem LR.nil : LR [] [] 0 := ⟨.nil, .nil, by simp [allT], Int.le_refl 0⟩
theorem tms_mem {t : Int} {k : Nat} {x : Int} (h : x ∈ tms t k) : t < x ∧ x ≤ t + k := by
  unfold tms at h
  obtain ⟨i, hi, rfl⟩ := List.mem_map.1 h
  have := List.mem_range.1 hi
  omega
theorem tms_up (t : Int) (k : Nat) : (tms t k).Pairwise (· < ·) := by
  unfold tms
  rw [List.pairwise_map]
  exact List.Pairwise.imp (fun h => by omega) List.pairwise_lt_range
theorem allT_app (a b : List RfQ) : allT (a ++ b) = allT a ++ allT b := by unfold allT; rw [List.map_append, List.flatten_append]
theorem allT_one (q : RfQ) : allT [q] = q.ts := by unfold allT; simp
/-- Times that come behind all there are. -/
theorem LR.times {T : List Int} {t : Int} (hi : T.Pairwise (· < ·)) (hp : ∀ x ∈ T, 0 < x ∧ x ≤ t) (h0 : 0 ≤ t) (k : Nat) : (T ++ tms t k).Pairwise (· < ·) ∧ ∀ x ∈ T ++ tms t k, 0 < x ∧ x ≤ t + k := by
  refine ⟨List.pairwise_append.2 ⟨hi, tms_up t k, fun a ha b hb => ?_⟩, fun x hx => ?_⟩
  · have h1 := hp a ha
    have h2 := tms_mem hb
    omega
  · rcases List.mem_append.1 hx with hx | hx
    · have := hp x hx; omega
    · have := tms_mem hx; omega
theorem LR.new (h : LR l qs t) (n : Int) (r : Rec) : LR (l ++ [⟨n, [r], 0⟩]) (qs ++ [⟨n, r.fr, 0, tms t r.fr.length⟩]) (t + r.fr.length) := by
  obtain ⟨h1, h2⟩ := LR.times h.inc h.pos h.t0 r.fr.length
  refine ⟨h.m.app (.cons ⟨rfl, (bytes_one r).symm, rfl, ?_⟩ .nil), ?_, ?_, by have := h.t0; omega⟩
  · simp only [tms_len]; omega
  · rw [allT_app, allT_one]; exact h1
  · rw [allT_app, allT_one]; exact h2
theorem LR.old {pre : List Lf} {f : Lf} {qp : List RfQ} {q : RfQ} (h : LR (pre ++ [f]) (qp ++ [q]) t) (hk : f.k ≤ f.rs.length) (r : Rec) : LR (pre ++ [⟨f.n, f.rs ++ [r], f.k⟩]) (qp ++ [q.app r.fr t]) (t + r.fr.length) := by
  obtain ⟨m', b', e, h1, h2⟩ := h.m.snoc_inv
  obtain ⟨rfl, rfl⟩ : qp = m' ∧ q = b' := by
    have := List.append_inj' e rfl
    exact ⟨this.1, by simpa using this.2⟩
  have hi := h.inc
  have hp := h.pos
  rw [allT_app, allT_one] at hi hp
  obtain ⟨h3, h4⟩ := LR.times hi hp h.t0 r.fr.length
  refine ⟨h1.app (.cons ⟨h2.n, ?_, ?_, ?_⟩ .nil), ?_, ?_, by have := h.t0; omega⟩
  · show q.b ++ r.fr = _
    rw [h2.b, bytes_app, bytes_one]
  · show q.s = _
    rw [h2.s]
    unfold Lf.s7
    simp only [List.take_append_of_le_length hk]
  · show q.s + (q.ts ++ tms t r.fr.length).length = (q.b ++ r.fr).length
    rw [List.length_append, List.length_append, tms_len]
    have := h2.e
    omega
  · rw [allT_app, allT_one]; show (allT qp ++ (q.ts ++ tms t r.fr.length)).Pairwise _; rw [← List.append_assoc]; exact h3
  · rw [allT_app, allT_one]; show ∀ x ∈ allT qp ++ (q.ts ++ tms t r.fr.length), _; rw [← List.append_assoc]; exact h4
theorem syn_ts (qs : List RfQ) : allT (qs.map RfQ.syn) = [] := by
  unfold allT
  rw [List.flatten_eq_nil_iff]
  intro x hx
  obtain ⟨q, hq, rfl⟩ := List.mem_map.1 hx
  obtain ⟨p, _, rfl⟩ := List.mem_map.1 hq
  rfl
theorem FR.syn {f : Lf} {q : RfQ} (h : FR f q) : FR f.full q.syn := ⟨h.n, h.b, by show q.b.length = _; rw [h.b]; unfold Lf.s7 Lf.full; simp, by show q.b.length + 0 = q.b.length; omega⟩
theorem All2.maps {α β α' β' : Type} {R : α → β → Prop} {S : α' → β' → Prop} {f : α → α'} {f' : β → β'} (hf : ∀ a b, R a b → S (f a) (f' b)) {l : List α} {m : List β} (h : All2 R l m) : All2 S (l.map f) (m.map f') := by
  induction h with
  | nil => exact .nil
  | cons a _ ih => exact .cons (hf _ _ a) ih
theorem LR.sync (h : LR l qs t) : LR (lsync l) (qs.map RfQ.syn) t := ⟨h.m.maps fun _ _ x => x.syn, by rw [syn_ts]; exact .nil, by rw [syn_ts]; simp, h.t0⟩
end
end Go.Proofs.YtihaajncebdioaaGreat

/-
  The document's own log: what Add asks of its disk.
-/
set_option linter.unusedVariables false
set_option linter.unusedSimpArgs false
namespace Go.Proofs.YtihaajncebdioaaGreat
open Go Go.Sl

/-- A log on the document's own disk, as it lies in memory; no time is behind T. -/
def RD (l : List Lf) (d : Nat) (h : Hp) (T : Int) : Prop := ∃ qs t, LR l qs t ∧ t ≤ T ∧ IsRk (qs.map RfQ.pl) t d h
theorem RD.mono {l : List Lf} {d : Nat} {h : Hp} {T T' : Int} (k : RD l d h T) (hT : T ≤ T') : RD l d h T' := by
  obtain ⟨qs, t, a, b, c⟩ := k
  exact ⟨qs, t, a, by omega, c⟩
theorem rsize_end {fs : List RfP} {t : Int} {d : Nat} {h : Hp} (hd : IsRk fs t d h) (hl : fs.length ≤ 1099511627776) {n : Int} (hlt : ∀ y ∈ fs, y.n < n) :
    Ct Tryz.prog 41 [.pointer (some ⟨d, 0, none⟩), .int .i64 n] [h] (fun r H' => r = .int .i64 0 ∧ H' = [h]) := by
  obtain ⟨lv, gs, lh, hd, rfl⟩ := hd
  have hf := rfind_end (d := d) (t := t) hd hlt hl
  unfold rfPost at hf
  refine Ct.pack (pre := [RBk d lv t, lh, ghp gs]) (post := fun r H' => r = .int .i64 0 ∧ H' = [RBk d lv t, lh, ghp gs]) ?_ (by simp) (fun r H' p => ⟨[RBk d lv t ++ (lh ++ ghp gs)], by rw [p.2]; simp, p.1, rfl⟩)
  refine Ct.mk' Tryz.func41 rfl rfl rfl (fun g R => ?_)
  try simp only [List.cons_append]
  simp only [List.nil_append]
  repeat' (first | refine go ?_ | refine mv ?_ | refine asg ?_ | fail)
  refine WX.callQ rfl hf rfl ?_
  repeat' (first | refine go ?_ | refine mv ?_ | refine asg ?_ | (refine I.cond ?_; refine cT ?_) | refine ex ?_ | (refine I.un ?_; refine nt ?_) | fail)
  exact D.fin1 [RBk d lv t, lh, ghp gs] _ rfl rfl ⟨rfl, rfl⟩
section
variable {l : List Lf} {d : Nat} {h hx : Hp} {T : Int}
theorem last_split {pre : List Lf} {f : Lf} {qs : List RfQ} {t : Int} (h : LR (pre ++ [f]) qs t) : ∃ qp q, qs = qp ++ [q] ∧ FR f q ∧ qp.length = pre.length := by
  obtain ⟨m', b', e, h1, h2⟩ := h.m.snoc_inv
  exact ⟨m', b', e, h2, h1.len.symm⟩
theorem rsize_log (ok : LOk l) (hd : RD l d h T) : Ct Tryz.prog 41 [.pointer (some ⟨d, 0, none⟩), .int .i64 (lastN l)] [h] (fun r H' => r = .int .i64 ((dk l).size (lastN l) : Int) ∧ H' = [h]) := by
  have hs := size_last ok
  obtain ⟨qs, t, lr, -, hd⟩ := hd
  have qok := lr.q ok.toLUp
  have hll := qok.len
  rcases List.eq_nil_or_concat l with rfl | ⟨pre, f, rfl⟩
  · rw [hs]
    have hq : qs = [] := by have := lr.m.len; exact List.length_eq_zero_iff.1 (by simpa using this.symm)
    subst hq
    exact rsize_end hd (by decide) (by simp)
  · rw [List.concat_eq_append] at hs lr ⊢
    rw [List.getLast?_concat] at hs
    rw [hs]
    obtain ⟨qp, q, rfl, fr, -⟩ := last_split lr
    have hq : (qp ++ [q])[qp.length]? = some q := List.getElem?_concat_length
    have := rsize_ct hd qok.srt (by rw [List.length_map]; omega) (q_nth hq)
    rw [show q.pl.n = lastN (pre ++ [f]) from by rw [lastN_app]; exact fr.n, show q.pl.b = bytes f.rs from fr.b] at this
    exact this

theorem set_last {qp : List RfQ} {q q1 : RfQ} : (qp ++ [q]).set qp.length q1 = qp ++ [q1] := by rw [List.set_append_right _ _ (Nat.le_refl _), Nat.sub_self]; rfl
theorem rapp_log (ok : LOk l) (hd : RD l d h T) (hT : T ≤ 549755813888) {r : Rec} (hc : r.code = 0) {u : Value} (hb : Rs r.fr u hx) :
    Ct Tryz.prog 42 [.pointer (some ⟨d, 0, none⟩), .int .i64 (toN l), u] [h, hx] (fun res H' => ∃ (e : Int) (h' : Hp), res = .int .i64 e ∧ H' = [h', hx] ∧ (e = 0 ↔ (ladd1 l r).2 = 0) ∧ RD (ladd1 l r).1 d h' (T + 243)) := by
  have hle := (Rec.good hc).fr_le
  obtain ⟨qs, t, lr, ht, hd⟩ := hd
  have ht0 := lr.t0
  have qok := lr.q ok.toLUp
  have hus := lr.used
  have hll := lr.m.len
  unfold ladd1
  rw [if_neg (by simpa using hc)]
  rcases List.eq_nil_or_concat l with rfl | ⟨pre, f, rfl⟩
  · have hq : qs = [] := List.length_eq_zero_iff.1 (by simpa using hll.symm)
    subst hq
    have := rappend_new qok ht0 (by omega) hd (n := 0) (by simp) (Int.le_refl 0) (by decide) (by decide) hb (by rw [hus, used_nil]; omega)
    refine Ct.mono this ?_
    rintro _ H' ⟨h', rfl, e, hd'⟩
    exact ⟨0, h', rfl, e, ⟨fun _ => rfl, fun _ => rfl⟩, _, _, LR.new lr 0 r, by omega, hd'⟩
  · rw [List.concat_eq_append] at ok lr hus hll ⊢
    have hs := size_last ok
    have hlo := ok.lo f (by simp)
    have hhi := ok.hi f (by simp)
    have hlm := ok.len
    rw [List.getLast?_concat] at hs ⊢
    simp only [List.dropLast_concat] at hs ⊢
    obtain ⟨qp, q, rfl, fr, hqp⟩ := last_split lr
    have hqn : ∀ x ∈ qp ++ [q], x.n < f.n + 1 := fun x hx => by
      have hup := qok.up
      rw [List.map_append, List.pairwise_append] at hup
      have hfn := fr.n
      rcases List.mem_append.1 hx with hx | hx
      · have := hup.2.2 _ (List.mem_map.2 ⟨x, hx, rfl⟩) q.n (by simp)
        omega
      · rw [List.mem_singleton.1 hx]; omega
    by_cases h4 : 4096 ≤ (bytes f.rs).length
    · have htn : toN (pre ++ [f]) = f.n + 1 := by unfold toN; rw [hs, if_pos h4, lastN_app]
      rw [htn, if_pos h4]
      by_cases hfar : 1099511627776 < f.n + 1
      · rw [if_pos (.inl hfar)]
        refine Ct.mono (rappend_far (qs := qp ++ [q]) (t := t) (h := h) (hx := hx) hfar) ?_
        rintro _ H' ⟨rfl, e⟩
        exact ⟨50, h, rfl, e, ⟨fun h => absurd h (by decide), fun h => absurd (show (51 : Int) = 0 from h) (by decide)⟩, _, _, lr, by omega, hd⟩
      by_cases hful : 64 ≤ (pre ++ [f]).length ∨ 1048576 < (dk (pre ++ [f])).used + r.fr.length
      · rw [if_pos (.inr hful)]
        refine Ct.mono (rappend_full qok hd hqn (by omega) (by omega) hb (by omega) (by rw [hus, ← hll]; exact hful)) ?_
        rintro _ H' ⟨rfl, e⟩
        exact ⟨51, h, rfl, e, ⟨fun h => absurd h (by decide), fun h => absurd (show (51 : Int) = 0 from h) (by decide)⟩, _, _, lr, by omega, hd⟩
      · rw [if_neg (fun h => h.elim hfar hful)]
        simp only [not_or, Nat.not_le, Nat.not_lt] at hful
        refine Ct.mono (rappend_new qok ht0 (by omega) hd hqn (by omega) (by omega) (by omega) hb (by rw [hus]; omega)) ?_
        rintro _ H' ⟨h', rfl, e, hd'⟩
        exact ⟨0, h', rfl, e, ⟨fun _ => rfl, fun _ => rfl⟩, _, _, LR.new lr (f.n + 1) r, by omega, hd'⟩
    · have htn : toN (pre ++ [f]) = f.n := by unfold toN; rw [hs, if_neg h4, lastN_app]
      have hq : (qp ++ [q])[qp.length]? = some q := List.getElem?_concat_length
      have hfn := fr.n
      rw [htn, if_neg h4, ← hfn]
      by_cases hful : 1048576 < (dk (pre ++ [f])).used + r.fr.length
      · rw [if_pos hful]
        refine Ct.mono (rappend_more qok hd hq (by omega) (by omega) hb (by omega) (by rw [hus]; exact hful)) ?_
        rintro _ H' ⟨rfl, e⟩
        exact ⟨51, h, rfl, e, ⟨fun h => absurd h (by decide), fun h => absurd (show (51 : Int) = 0 from h) (by decide)⟩, _, _, lr, by omega, hd⟩
      · rw [if_neg hful]
        refine Ct.mono (rappend_old qok ht0 (by omega) hd hq (by omega) (by omega) hb (by show used7 _ + _ ≤ _; rw [hus]; omega)) ?_
        rintro _ H' ⟨h', rfl, e, hd'⟩
        rw [set_last] at hd'
        rw [hfn]
        exact ⟨0, h', rfl, e, ⟨fun _ => rfl, fun _ => rfl⟩, _, _, LR.old lr (ok.k f (by simp)) r, by omega, hd'⟩
end
end Go.Proofs.YtihaajncebdioaaGreat

/-
  The document's own log: Add, Sync.
-/
set_option linter.unusedVariables false
set_option linter.unusedSimpArgs false
namespace Go.Proofs.YtihaajncebdioaaGreat
open Go Go.Sl

abbrev VBk (w d : Nat) (seg torn : Int) : Hp := [(w, .cells (List.toArray [.pointer (some ⟨d, 0, none⟩), .int .i64 seg, .int .i64 torn]) 63 (0, 0))]
set_option maxHeartbeats 2000000 in
theorem vadd_ct {l : List Lf} (ok : LOk l) {d : Nat} {h : Hp} {T : Int} (hd : RD l d h T) {rs : List Rec} {v : Value} {hx : Hp} (hr : Rs rs v hx) (hl : rs.length ≤ 1000000) (hT0 : 0 ≤ T) (hT : T ≤ 274877906944) (hz : ∀ r ∈ rs, r.size ≤ 1073741824) {w : Nat} {torn : Int} :
    Ct Tryz.prog 16 [.pointer (some ⟨w, 0, none⟩), v] [VBk w d (lastN l) torn, h, hx] (fun res H' => ∃ h', res = .int .i64 (ladd l rs).2 ∧ H' = [VBk w d (lastN (ladd l rs).1) torn, h', hx] ∧ RD (ladd l rs).1 d h' (T + 243 * (rs.length : Int))) := by
  refine Ct.mk' Tryz.func16 rfl rfl rfl (fun g R => ?_)
  try simp only [List.cons_append]
  simp only [List.nil_append]
  repeat' (first | refine go ?_ | refine asg ?_ | fail)
  refine W.loop (α := Nat × List Lf × Hp) (fun x => x.1 ≤ rs.length ∧ LOk x.2.1 ∧ RD x.2.1 d x.2.2 (T + 243 * (x.1 : Int)) ∧ ladd l rs = ladd x.2.1 (rs.drop x.1))
    (fun x => [(0, .pointer (some ⟨w, 0, none⟩)), (1, v), (5, .int .i64 (x.1 : Int))])
    (fun x => [VBk w d (lastN x.2.1) torn, x.2.2, hx, R]) (fun x => rs.length - x.1) (0, l, h) ⟨Nat.zero_le _, ok, by simpa using hd, rfl⟩ (by repeat (first | exact Fsub.nil | refine Fsub.cons rfl ?_)) (Hsub.of_picks inferInstance) ?_
  rintro ⟨i, m, y⟩ ⟨hi, okm, hdm, he⟩
  simp only [] at hi okm hdm he ⊢
  by_cases hlt : i < rs.length
  · obtain ⟨r, hri⟩ : ∃ r, rs[i]? = some r := ⟨_, List.getElem?_eq_getElem hlt⟩
    rw [ladd_drop hri] at he
    have hsz := hz r (List.mem_of_getElem? hri)
    have hrp := orec_ct r hsz
    have hsc := rsize_log okm hdm
    have hrg := lastN_range okm
    by_cases hc : r.code = 0
    · rw [hc] at hrp
      obtain ⟨hA, hB⟩ := ladd1_good okm hc
      have okn := okm.add1 r
      repeat' (first | refine go ?_ | refine mv ?_ | (refine I.ld ?_; refine lF rfl (by assumption) ?_) | (refine I.bin ?_; refine cm rfl rfl ?_) | (refine I.cond ?_; refine cP ?_) | (refine I.bi ?_; refine ln rfl (by assumption) ?_) | (refine I.ix ?_; refine ix rfl rfl ?_) | fail)
      refine WX.call rfl hrp rfl ?_
      rintro _ _ ⟨u2, h2, rfl, rfl, hs2⟩
      have hap := rapp_log okm hdm (by omega) hc hs2.rs
      have htn : toN m = if 4096 ≤ (dk m).size (lastN m) then lastN m + 1 else lastN m := rfl
      have hlN : (ladd1 m r).2 = 0 → lastN (ladd1 m r).1 = toN m := fun h0 => by
        by_cases hE : (dk m).appE (toN m) r.fr.length = 0
        · exact (hB hE).2.2
        · rw [hA hE] at h0; exact absurd (show (51 : Int) = 0 from h0) (by decide)
      have hbad : (ladd1 m r).2 ≠ 0 → (ladd1 m r) = (m, 51) := fun h0 => by
        by_cases hE : (dk m).appE (toN m) r.fr.length = 0
        · exact absurd (hB hE).1 h0
        · exact hA hE
      simp only [List.cons_append, List.nil_append]
      by_cases h4 : 4096 ≤ (dk m).size (lastN m)
      · rw [if_pos h4] at htn
        rw [htn] at hap hlN
        repeat' (first | refine go ?_ | refine mv ?_ | (refine I.ld ?_; refine ld rfl ?_) | refine asg ?_ | (refine I.fa ?_; refine fa ?_) | (refine I.nc ?_; refine nc ?_) | (refine I.bin ?_; refine cm rfl rfl ?_) | (refine I.cond ?_; refine cF ?_) | refine ex ?_ | fail)
        refine WX.callQ rfl hsc rfl ?_
        repeat' (first | refine go ?_ | refine mv ?_ | (refine I.ld ?_; refine ld rfl ?_) | refine asg ?_ | (refine I.fa ?_; refine fa ?_) | (refine I.nc ?_; refine nc ?_) | (refine I.bin ?_; first | refine cm rfl rfl ?_ | refine ad ?_) | (refine I.cond ?_; refine cP ?_) | fail)
        refine WX.call rfl hap rfl ?_
        rintro _ _ ⟨e, y', rfl, rfl, hee, hdy⟩
        simp only [List.cons_append, List.nil_append]
        by_cases hE : (ladd1 m r).2 = 0
        · have he0 := hee.2 hE
          subst he0
          rw [if_neg (fun hn => hn hE)] at he
          repeat' (first | refine go ?_ | refine mv ?_ | refine asg ?_ | (refine I.fa ?_; refine fa ?_) | (refine I.nc ?_; refine nc ?_) | (refine I.bin ?_; first | refine cm rfl rfl ?_ | refine ad ?_) | (refine I.cond ?_; refine cF ?_) | (refine I.st ?_; refine st rfl rfl ?_) | fail)
          rw [← hlN hE]
          exact D.round (i + 1, (ladd1 m r).1, y') ⟨by simp only []; omega, okn, hdy.mono (by simp only []; omega), he⟩ (by simp only []; omega) (by repeat (first | exact Fsub.nil | refine Fsub.cons rfl ?_)) (Hsub.of_picks inferInstance)
        · have he0 : ¬ e = 0 := fun h0 => hE (hee.1 h0)
          rw [if_pos hE, hbad hE] at he
          rw [hbad hE] at hdy
          repeat' (first | refine go ?_ | refine asg ?_ | (refine I.bin ?_; refine cm rfl rfl ?_) | (refine I.cond ?_; refine cP ?_) | fail)
          exact D.fin1 [VBk w d (lastN m) torn, y', hx] _ rfl rfl ⟨y', by rw [he], by rw [he], by rw [he]; exact hdy.mono (by omega)⟩
      · rw [if_neg h4] at htn
        rw [htn] at hap hlN
        repeat' (first | refine go ?_ | refine mv ?_ | (refine I.ld ?_; refine ld rfl ?_) | refine asg ?_ | (refine I.fa ?_; refine fa ?_) | (refine I.nc ?_; refine nc ?_) | (refine I.bin ?_; refine cm rfl rfl ?_) | (refine I.cond ?_; refine cF ?_) | refine ex ?_ | fail)
        refine WX.callQ rfl hsc rfl ?_
        repeat' (first | refine go ?_ | refine mv ?_ | (refine I.ld ?_; refine ld rfl ?_) | (refine I.fa ?_; refine fa ?_) | (refine I.nc ?_; refine nc ?_) | (refine I.bin ?_; refine cm rfl rfl ?_) | (refine I.cond ?_; refine cN ?_) | fail)
        refine WX.call rfl hap rfl ?_
        rintro _ _ ⟨e, y', rfl, rfl, hee, hdy⟩
        simp only [List.cons_append, List.nil_append]
        by_cases hE : (ladd1 m r).2 = 0
        · have he0 := hee.2 hE
          subst he0
          rw [if_neg (fun hn => hn hE)] at he
          repeat' (first | refine go ?_ | refine mv ?_ | refine asg ?_ | (refine I.fa ?_; refine fa ?_) | (refine I.nc ?_; refine nc ?_) | (refine I.bin ?_; first | refine cm rfl rfl ?_ | refine ad ?_) | (refine I.cond ?_; refine cF ?_) | (refine I.st ?_; refine st rfl rfl ?_) | fail)
          rw [← hlN hE]
          exact D.round (i + 1, (ladd1 m r).1, y') ⟨by simp only []; omega, okn, hdy.mono (by simp only []; omega), he⟩ (by simp only []; omega) (by repeat (first | exact Fsub.nil | refine Fsub.cons rfl ?_)) (Hsub.of_picks inferInstance)
        · have he0 : ¬ e = 0 := fun h0 => hE (hee.1 h0)
          rw [if_pos hE, hbad hE] at he
          rw [hbad hE] at hdy
          repeat' (first | refine go ?_ | refine asg ?_ | (refine I.bin ?_; refine cm rfl rfl ?_) | (refine I.cond ?_; refine cP ?_) | fail)
          exact D.fin1 [VBk w d (lastN m) torn, y', hx] _ rfl rfl ⟨y', by rw [he], by rw [he], by rw [he]; exact hdy.mono (by omega)⟩
    · rw [ladd1_bad hc, if_pos hc] at he
      repeat' (first | refine go ?_ | refine mv ?_ | (refine I.ld ?_; refine lF rfl (by assumption) ?_) | (refine I.bin ?_; refine cm rfl rfl ?_) | (refine I.cond ?_; refine cP ?_) | (refine I.bi ?_; refine ln rfl (by assumption) ?_) | (refine I.ix ?_; refine ix rfl rfl ?_) | fail)
      refine WX.call rfl hrp rfl ?_
      rintro _ _ ⟨u2, h2, rfl, rfl, hs2⟩
      simp only [List.cons_append, List.nil_append]
      repeat' (first | refine go ?_ | refine mv ?_ | refine asg ?_ | (refine I.bin ?_; refine cm rfl rfl ?_) | (refine I.cond ?_; refine cP ?_) | refine ex ?_ | fail)
      exact D.fin1 [VBk w d (lastN m) torn, y, hx] _ rfl rfl ⟨y, by rw [he], by rw [he], by rw [he]; exact hdm.mono (by omega)⟩
  · have hlen : rs.drop i = [] := List.drop_eq_nil_of_le (by omega)
    rw [hlen] at he
    repeat' (first | refine go ?_ | refine mv ?_ | refine asg ?_ | (refine I.bin ?_; refine cm rfl rfl ?_) | (refine I.cond ?_; refine cN ?_) | (refine I.bi ?_; refine ln rfl (by assumption) ?_) | fail)
    exact D.fin1 [VBk w d (lastN m) torn, y, hx] _ rfl rfl ⟨y, by rw [he]; rfl, by rw [he]; rfl, by rw [he]; exact hdm.mono (by omega)⟩
end Go.Proofs.YtihaajncebdioaaGreat

/-
  The document's own log: Sync, Room.
-/
set_option linter.unusedVariables false
set_option linter.unusedSimpArgs false
namespace Go.Proofs.YtihaajncebdioaaGreat
open Go Go.Sl

def syS (qs : List RfQ) (i : Nat) : List RfQ := (qs.take i).map RfQ.syn ++ qs.drop i
theorem syS_at {qs : List RfQ} {i : Nat} {q : RfQ} (h : qs[i]? = some q) : (syS qs i)[i]? = some q ∧ (syS qs i).set i q.syn = syS qs (i + 1) := by
  obtain ⟨h1, h2⟩ := List.getElem?_eq_some_iff.1 h
  have hl : ((qs.take i).map RfQ.syn).length = i := by rw [List.length_map, List.length_take]; omega
  unfold syS
  have hd : qs.drop i = q :: qs.drop (i + 1) := by rw [List.drop_eq_getElem_cons h1, h2]
  constructor
  · rw [List.getElem?_append_right (by omega), hl, Nat.sub_self, hd]; rfl
  · rw [List.set_append_right _ _ (by omega), hl, Nat.sub_self, hd, List.set_cons_zero, List.take_succ_eq_append_getElem h1, h2, List.map_append, List.append_assoc]; rfl
theorem syS_map {γ : Type} {f : RfQ → γ} (hf : ∀ q, f q.syn = f q) (qs : List RfQ) (i : Nat) : (syS qs i).map f = qs.map f := by
  unfold syS
  rw [List.map_append, List.map_map]
  conv => rhs; rw [← List.take_append_drop i qs, List.map_append]
  congr 1
  exact List.map_congr_left fun x _ => hf x
theorem syS_ok {qs : List RfQ} (ok : QOk qs) (i : Nat) : QOk (syS qs i) where
  up := by rw [syS_map (f := (·.n)) (fun _ => rfl)]; exact ok.up
  ok := fun q hq => by
    unfold syS at hq
    rcases List.mem_append.1 hq with hq | hq
    · obtain ⟨p, hp, rfl⟩ := List.mem_map.1 hq
      exact ⟨by show p.b.length + 0 = p.b.length; omega, by show ∀ x ∈ [], _; simp⟩
    · exact ok.ok q (List.mem_of_mem_drop hq)
  used := by rw [syS_map (f := fun q => q.b.length) (fun _ => rfl)]; exact ok.used
  len := by have := ok.len; have h2 := congrArg List.length (syS_map (f := (·.n)) (fun _ => rfl) qs i); simp only [List.length_map] at h2; omega

set_option maxHeartbeats 1000000 in
theorem vsync_ct {l : List Lf} (ok : LOk l) {d : Nat} {h : Hp} {T : Int} (hd : RD l d h T) {w : Nat} {seg torn : Int} :
    Ct Tryz.prog 17 [.pointer (some ⟨w, 0, none⟩)] [VBk w d seg torn, h] (fun res H' => ∃ h', H' = [VBk w d seg torn, h'] ∧ RD (lsync l) d h' T) := by
  obtain ⟨qs, t, lr, ht, hd⟩ := hd
  have qok := lr.q ok.toLUp
  have hll := qok.len
  have hfc := rfiles_ct hd (by rw [List.length_map]; omega)
  have hnm : (qs.map RfQ.pl).map (·.n) = qs.map (·.n) := by rw [List.map_map]; rfl
  rw [hnm] at hfc
  have hnl : (qs.map (·.n)).length = qs.length := List.length_map _
  refine Ct.mk' Tryz.func17 rfl rfl rfl (fun g R => ?_)
  try simp only [List.cons_append]
  simp only [List.nil_append]
  repeat' (first | refine go ?_ | refine mv ?_ | (refine I.ld ?_; refine ld rfl ?_) | (refine I.fa ?_; refine fa ?_) | (refine I.nc ?_; refine nc ?_) | fail)
  refine WX.call rfl hfc rfl ?_
  rintro u _ ⟨hn, rfl, hs⟩
  have hr := hs.rs
  simp only [List.cons_append, List.nil_append]
  repeat' (first | refine go ?_ | refine asg ?_ | fail)
  refine W.loop (α := Nat × Hp) (fun x => x.1 ≤ qs.length ∧ IsRk ((syS qs x.1).map RfQ.pl) t d x.2) (fun x => [(0, .pointer (some ⟨w, 0, none⟩)), (2, u), (3, .int .i64 (x.1 : Int))])
    (fun x => [VBk w d seg torn, x.2, hn, R]) (fun x => qs.length - x.1) (0, h) ⟨Nat.zero_le _, by simpa [syS] using hd⟩ (by repeat (first | exact Fsub.nil | refine Fsub.cons rfl ?_)) (Hsub.of_picks inferInstance) ?_
  rintro ⟨i, y⟩ ⟨hi, hdi⟩
  simp only [] at hi hdi ⊢
  by_cases hil : i < qs.length
  · obtain ⟨q, hq⟩ : ∃ q, qs[i]? = some q := ⟨_, List.getElem?_eq_getElem hil⟩
    have hqn : (qs.map (·.n))[i]? = some q.n := by rw [List.getElem?_map, hq]; rfl
    obtain ⟨h1, h2⟩ := syS_at hq
    have hsy := rsync_ct (syS_ok qok i) hdi h1
    rw [h2] at hsy
    repeat' (first | refine go ?_ | refine mv ?_ | (refine I.bin ?_; refine cm rfl rfl ?_) | (refine I.cond ?_; refine cP ?_) | (refine I.bi ?_; refine ln rfl (by assumption) ?_) | fail)
    refine W.mix (List.replicate 8 true) [VBk w d seg torn, hn] Tryz.mix (by kernel_rfl) ?_
    repeat' (first | refine go ?_ | refine mv ?_ | (refine I.ld ?_; first | refine ld rfl ?_ | refine lE rfl (by assumption) ?_) | (refine I.fa ?_; refine fa ?_) | (refine I.nc ?_; refine nc ?_) | refine mN ?_ | refine mU ?_ | (refine I.ix ?_; refine ix rfl rfl ?_) | fail)
    refine WX.call rfl hsy rfl ?_
    rintro _ _ ⟨y', rfl, rfl, hdy⟩
    simp only [List.cons_append, List.nil_append]
    repeat' (first | refine go ?_ | refine mv ?_ | refine asg ?_ | (refine I.bin ?_; refine ad ?_) | fail)
    exact D.round (i + 1, y') ⟨by simp only []; omega, hdy⟩ (by simp only []; omega) (by repeat (first | exact Fsub.nil | refine Fsub.cons rfl ?_)) (Hsub.of_picks inferInstance)
  · obtain rfl : i = qs.length := by omega
    have hfin : syS qs qs.length = qs.map RfQ.syn := by unfold syS; rw [List.take_length, List.drop_length, List.append_nil]
    rw [hfin] at hdi
    repeat' (first | refine go ?_ | refine mv ?_ | (refine I.bin ?_; refine cm rfl rfl ?_) | (refine I.cond ?_; refine cN ?_) | (refine I.bi ?_; refine ln rfl (by assumption) ?_) | fail)
    exact D.finE [VBk w d seg torn, y] _ rfl ⟨y, rfl, _, t, lr.sync, ht, hdi⟩

def roomB (l : List Lf) (n : Int) : Bool := decide (0 ≤ n ∧ n ≤ 2048 ∧ l.length < 63 ∧ ((dk l).used : Int) < 1048576 - n * 512)
theorem vroom_ct {l : List Lf} (ok : LOk l) {d : Nat} {h : Hp} {T : Int} (hd : RD l d h T) {w : Nat} {seg torn : Int} (n : Int) :
    Ct Tryz.prog 23 [.pointer (some ⟨w, 0, none⟩), .int .i64 n] [VBk w d seg torn, h] (fun res H' => res = .bool (roomB l n) ∧ H' = [VBk w d seg torn, h]) := by
  obtain ⟨qs, t, lr, ht, hd⟩ := hd
  have qok := lr.q ok.toLUp
  have hll := qok.len
  have hml := lr.m.len
  have hus := lr.used
  have hu1 := ok.used
  have hfc := rfiles_ct hd (by rw [List.length_map]; omega)
  have hnm : (qs.map RfQ.pl).map (·.n) = qs.map (·.n) := by rw [List.map_map]; rfl
  rw [hnm] at hfc
  have hnl : (qs.map (·.n)).length = qs.length := List.length_map _
  have huc : Ct Tryz.prog 47 [.pointer (some ⟨d, 0, none⟩)] [h] (fun r H' => r = .int .i64 ((dk l).used : Int) ∧ H' = [h]) := by
    obtain ⟨lv, gs, lh, hd3, rfl⟩ := hd
    rw [← hus]
    exact (rused_q (d := d) (t := t) qok hd3).pack (by simp) (fun r H' p => ⟨[RBk d lv t ++ (lh ++ ghp gs)], by rw [p.2]; simp, p.1, rfl⟩)
  refine Ct.mk' Tryz.func23 rfl rfl rfl (fun g R => ?_)
  try simp only [List.cons_append]
  simp only [List.nil_append]
  unfold roomB
  by_cases h0 : 0 ≤ n
  · by_cases h2 : n ≤ 2048
    · repeat' (first | refine go ?_ | refine mv ?_ | (refine I.ld ?_; refine ld rfl ?_) | refine asg ?_ | (refine I.gd ?_; first | refine gy ?_ | refine gT ?_) | (refine I.fa ?_; refine fa ?_) | (refine I.nc ?_; refine nc ?_) | (refine I.bin ?_; refine cm rfl rfl ?_) | (refine I.pk ?_; refine pT ?_) | fail)
      refine WX.call rfl hfc rfl ?_
      rintro u _ ⟨hn, rfl, hs⟩
      have hr := hs.rs
      simp only [List.cons_append, List.nil_append]
      by_cases h63 : l.length < 63
      · repeat' (first | refine mv ?_ | (refine I.ld ?_; refine ld rfl ?_) | (refine I.gd ?_; first | refine gy ?_ | refine gT ?_) | (refine I.fa ?_; refine fa ?_) | (refine I.nc ?_; refine nc ?_) | (refine I.bin ?_; refine cm rfl rfl ?_) | (refine I.pk ?_; refine pT ?_) | (refine I.bi ?_; refine ln rfl (by assumption) ?_) | fail)
        refine WX.callQ rfl huc rfl ?_
        repeat' (first | refine go ?_ | refine mv ?_ | refine asg ?_ | (refine I.gd ?_; refine gy ?_) | (refine I.bin ?_; first | refine cm rfl rfl ?_ | refine su ?_) | (refine I.pk ?_; refine pT ?_) | (refine I.bin ?_; refine WX.mul rfl rfl rfl (by omega) ?_) | fail)
        exact D.fin1 [VBk w d seg torn, h] _ rfl rfl ⟨by congr 1; rw [decide_eq_decide]; omega, rfl⟩
      · repeat' (first | refine go ?_ | refine mv ?_ | refine asg ?_ | (refine I.gd ?_; first | refine gy ?_ | refine gn ?_ | refine gF ?_) | (refine I.bin ?_; refine cm rfl rfl ?_) | (refine I.pk ?_; first | refine pT ?_ | refine pF ?_) | (refine I.bi ?_; refine ln rfl (by assumption) ?_) | fail)
        exact D.fin1 [VBk w d seg torn, h] _ rfl rfl ⟨by rw [decide_eq_false (by omega)], rfl⟩
    · repeat' (first | refine go ?_ | refine mv ?_ | refine asg ?_ | (refine I.gd ?_; first | refine gy ?_ | refine gn ?_ | refine gT ?_ | refine gF ?_) | (refine I.bin ?_; refine cm rfl rfl ?_) | (refine I.pk ?_; first | refine pT ?_ | refine pF ?_) | fail)
      exact D.fin1 [VBk w d seg torn, h] _ rfl rfl ⟨by rw [decide_eq_false (by omega)], rfl⟩
  · repeat' (first | refine go ?_ | refine mv ?_ | refine asg ?_ | (refine I.gd ?_; first | refine gn ?_ | refine gF ?_) | (refine I.bin ?_; refine cm rfl rfl ?_) | (refine I.pk ?_; refine pF ?_) | fail)
    exact D.fin1 [VBk w d seg torn, h] _ rfl rfl ⟨by rw [decide_eq_false (by omega)], rfl⟩
theorem room_ct {l : List Lf} (ok : LOk l) {d : Nat} {h : Hp} (hd : IsDk (dk l) d h) {w : Nat} {seg torn : Int} (n : Int) :
    Ct Tryz.prog 22 [.pointer (some ⟨w, 0, none⟩), .int .i64 n] [WBk w d seg torn, h] (fun res H' => res = .bool (roomB l n) ∧ H' = [WBk w d seg torn, h]) := by
  have hu1 := ok.used
  have hll := ok.len
  have hfc := files_ct hd (by rw [ok.fs_len]; omega)
  rw [dk_names ok] at hfc
  have hnl : (l.map (·.n)).length = l.length := List.length_map _
  have huc := used_ct hd (by omega)
  refine Ct.mk' Tryz.func22 rfl rfl rfl (fun g R => ?_)
  try simp only [List.cons_append]
  simp only [List.nil_append]
  unfold roomB
  by_cases h0 : 0 ≤ n
  · by_cases h2 : n ≤ 2048
    · repeat' (first | refine go ?_ | refine mv ?_ | (refine I.ld ?_; refine ld rfl ?_) | refine asg ?_ | (refine I.gd ?_; first | refine gy ?_ | refine gF ?_) | (refine I.fa ?_; refine fa ?_) | (refine I.nc ?_; refine nc ?_) | (refine I.bin ?_; refine cm rfl rfl ?_) | (refine I.pk ?_; refine pF ?_) | (refine I.cond ?_; refine cN ?_) | fail)
      refine WX.call rfl hfc rfl ?_
      rintro u _ ⟨hn, rfl, hs⟩
      have hr := hs.rs
      simp only [List.cons_append, List.nil_append]
      by_cases h63 : l.length < 63
      · repeat' (first | refine mv ?_ | (refine I.ld ?_; refine ld rfl ?_) | (refine I.gd ?_; first | refine gy ?_ | refine gT ?_) | (refine I.fa ?_; refine fa ?_) | (refine I.nc ?_; refine nc ?_) | (refine I.bin ?_; refine cm rfl rfl ?_) | (refine I.bi ?_; refine ln rfl (by assumption) ?_) | fail)
        refine WX.callQ rfl huc rfl ?_
        repeat' (first | refine go ?_ | refine mv ?_ | refine asg ?_ | (refine I.gd ?_; refine gy ?_) | (refine I.bin ?_; first | refine cm rfl rfl ?_ | refine su ?_) | (refine I.pk ?_; refine pT ?_) | (refine I.bin ?_; refine WX.mul rfl rfl rfl (by omega) ?_) | fail)
        exact D.fin1 [WBk w d seg torn, h] _ rfl rfl ⟨by congr 1; rw [decide_eq_decide]; omega, rfl⟩
      · repeat' (first | refine go ?_ | refine mv ?_ | refine asg ?_ | (refine I.gd ?_; first | refine gn ?_ | refine gF ?_) | (refine I.bin ?_; refine cm rfl rfl ?_) | (refine I.pk ?_; refine pF ?_) | (refine I.bi ?_; refine ln rfl (by assumption) ?_) | fail)
        exact D.fin1 [WBk w d seg torn, h] _ rfl rfl ⟨by rw [decide_eq_false (by omega)], rfl⟩
    · repeat' (first | refine go ?_ | refine mv ?_ | refine asg ?_ | (refine I.gd ?_; first | refine gy ?_ | refine gF ?_) | (refine I.bin ?_; refine cm rfl rfl ?_) | (refine I.pk ?_; refine pF ?_) | (refine I.cond ?_; refine cP ?_) | fail)
      exact D.fin1 [WBk w d seg torn, h] _ rfl rfl ⟨by rw [decide_eq_false (by omega)], rfl⟩
  · repeat' (first | refine go ?_ | refine mv ?_ | refine asg ?_ | (refine I.gd ?_; first | refine gn ?_ | refine gT ?_) | (refine I.bin ?_; refine cm rfl rfl ?_) | (refine I.pk ?_; refine pT ?_) | (refine I.cond ?_; refine cT ?_) | fail)
    exact D.fin1 [WBk w d seg torn, h] _ rfl rfl ⟨by rw [decide_eq_false (by omega)], rfl⟩
end Go.Proofs.YtihaajncebdioaaGreat

/-
  The document's own log: Cut.
-/
set_option linter.unusedVariables false
set_option linter.unusedSimpArgs false
namespace Go.Proofs.YtihaajncebdioaaGreat
open Go Go.Sl

theorem QOk.suf {a b : List RfQ} (h : QOk (a ++ b)) : QOk b where
  up := by have := h.up; rw [List.map_append, List.pairwise_append] at this; exact this.2.1
  ok := fun q hq => h.ok q (List.mem_append_right _ hq)
  used := by have := h.used; rw [List.map_append, List.sum_append] at this; omega
  len := by have := h.len; rw [List.length_append] at this; omega

theorem vapp_cut {l : List Lf} (ok : LOk l) {d : Nat} {h hx : Hp} {qs : List RfQ} {t : Int} (lr : LR l qs t) (ht : t ≤ 549755813888) (hd : IsRk (qs.map RfQ.pl) t d h) {u : Value} (hb : Rs cutR.fr u hx) :
    Ct Tryz.prog 42 [.pointer (some ⟨d, 0, none⟩), .int .i64 (lastN l + 1), u] [h, hx] (fun res H' => ∃ (e : Int) (h' : Hp), res = .int .i64 e ∧ H' = [h', hx] ∧ (e = 0 ↔ (dk l).appE (lastN l + 1) cutR.fr.length = 0) ∧ (e ≠ 0 → h' = h) ∧ (e = 0 → IsRk ((qs ++ [(⟨lastN l + 1, cutR.fr, 0, tms t cutR.fr.length⟩ : RfQ)]).map RfQ.pl) (t + cutR.fr.length) d h')) := by
  have hle := (Rec.good cutR_code).fr_le
  have ht0 := lr.t0
  have qok := lr.q ok.toLUp
  have hus := lr.used
  have hll := lr.m.len
  have hrg := lastN_range ok
  have hnx := find_next ok (n := lastN l + 1) (by omega)
  have hqn : ∀ x ∈ qs, x.n < lastN l + 1 := by
    rcases List.eq_nil_or_concat l with rfl | ⟨pre, f, rfl⟩
    · have : qs = [] := List.length_eq_zero_iff.1 (by simpa using hll.symm)
      subst this
      simp
    · rw [List.concat_eq_append] at lr ok hll ⊢
      obtain ⟨qp, q, rfl, fr, hqp⟩ := last_split lr
      rw [lastN_app]
      intro x hx
      have hup := qok.up
      rw [List.map_append, List.pairwise_append] at hup
      have hfn := fr.n
      rcases List.mem_append.1 hx with hx | hx
      · have := hup.2.2 _ (List.mem_map.2 ⟨x, hx, rfl⟩) q.n (by simp)
        omega
      · rw [List.mem_singleton.1 hx]; omega
  rw [appE_len, hnx]
  simp only [Option.isNone_none, true_and]
  by_cases hfar : 1099511627776 < lastN l + 1
  · rw [if_pos (.inr hfar)]
    refine Ct.mono (rappend_far (qs := qs) (t := t) (h := h) (hx := hx) hfar) ?_
    rintro _ H' ⟨rfl, e⟩
    exact ⟨50, h, rfl, e, ⟨fun h => absurd h (by decide), fun h => absurd h (by decide)⟩, fun _ => rfl, fun h => absurd h (by decide)⟩
  rw [if_neg (by omega)]
  by_cases hful : 64 ≤ l.length ∨ 1048576 < (dk l).used + cutR.fr.length
  · rw [if_pos hful]
    refine Ct.mono (rappend_full qok hd hqn (by omega) (by omega) hb (by omega) (by rw [hus, ← hll]; exact hful)) ?_
    rintro _ H' ⟨rfl, e⟩
    exact ⟨51, h, rfl, e, ⟨fun h => absurd h (by decide), fun h => absurd h (by decide)⟩, fun _ => rfl, fun h => absurd h (by decide)⟩
  · rw [if_neg hful]
    simp only [not_or, Nat.not_le, Nat.not_lt] at hful
    refine Ct.mono (rappend_new qok ht0 (by omega) hd hqn (by omega) (by omega) (by omega) hb (by rw [hus]; omega)) ?_
    rintro _ H' ⟨h', rfl, e, hd'⟩
    exact ⟨0, h', rfl, e, ⟨fun _ => rfl, fun _ => rfl⟩, fun h => absurd rfl h, fun _ => hd'⟩

set_option maxHeartbeats 2000000 in
theorem vcut_ct {l : List Lf} (ok : LOk l) {d : Nat} {h : Hp} {T : Int} (hd : RD l d h T) (hT : T ≤ 274877906944) {w : Nat} {torn : Int} :
    Ct Tryz.prog 19 [.pointer (some ⟨w, 0, none⟩)] [VBk w d (lastN l) torn, h] (fun res H' => ∃ h', res = .int .i64 (lcut l).2 ∧ H' = [VBk w d (lastN (lcut l).1) torn, h'] ∧ RD (lcut l).1 d h' (T + 243)) := by
  have hrp := orec_ct cutR (by decide)
  rw [cutR_code] at hrp
  have hle := (Rec.good cutR_code).fr_le
  have hrg := lastN_range ok
  obtain ⟨qs, t, lr, ht, hd⟩ := hd
  have ht0 := lr.t0
  refine Ct.mk' Tryz.func19 rfl rfl rfl (fun g R => ?_)
  try simp only [List.cons_append]
  simp only [List.nil_append]
  repeat' (first | refine go ?_ | refine asg ?_ | refine bd ?_ | fail)
  refine WX.call rfl hrp rfl ?_
  rintro _ _ ⟨u2, h2, rfl, rfl, hs2⟩
  have hap := vapp_cut ok lr (by omega) hd hs2.rs
  simp only [List.cons_append, List.nil_append]
  repeat' (first | refine go ?_ | refine mv ?_ | refine asg ?_ | refine ex ?_ | fail)
  refine W.mix (List.replicate 10 true ++ [false, true]) [VBk w d (lastN l) torn] Tryz.mix (by kernel_rfl) ?_
  repeat' (first | refine go ?_ | refine mv ?_ | (refine I.ld ?_; refine ld rfl ?_) | (refine I.fa ?_; refine fa ?_) | (refine I.nc ?_; refine nc ?_) | (refine I.bin ?_; refine ad ?_) | refine mU ?_ | refine mA ?_ | fail)
  refine WX.call rfl hap rfl ?_
  rintro _ _ ⟨e, y, rfl, rfl, hee, hbad, hgood⟩
  simp only [List.cons_append, List.nil_append]
  unfold lcut
  by_cases hE : (dk l).appE (lastN l + 1) cutR.fr.length = 0
  · rw [if_neg (fun hn => hn hE)]
    have he0 := hee.2 hE
    subst he0
    have hd1 := hgood rfl
    obtain ⟨okn, -⟩ := lcut_new ok hE
    have lrn := LR.new lr (lastN l + 1) cutR
    have qokn := lrn.q okn.toLUp
    have hll := qokn.len
    rw [List.length_append, List.length_singleton] at hll
    have hxq : (qs ++ [(⟨lastN l + 1, cutR.fr, 0, tms t cutR.fr.length⟩ : RfQ)])[qs.length]? = some ⟨lastN l + 1, cutR.fr, 0, tms t cutR.fr.length⟩ := List.getElem?_concat_length
    have hsy := rsync_ct qokn hd1 hxq
    rw [set_last] at hsy
    repeat' (first | refine go ?_ | refine mv ?_ | (refine I.ld ?_; refine ld rfl ?_) | (refine I.fa ?_; refine fa ?_) | (refine I.nc ?_; refine nc ?_) | (refine I.bin ?_; first | refine cm rfl rfl ?_ | refine ad ?_) | (refine I.cond ?_; refine cF ?_) | refine mN ?_ | refine WX.nil ?_ | refine mU ?_ | (refine I.st ?_; refine st rfl rfl ?_) | fail)
    refine W.mix (List.replicate 8 true) [VBk w d (lastN l + 1) torn] Tryz.mix (by kernel_rfl) ?_
    repeat' (first | refine go ?_ | refine mv ?_ | (refine I.ld ?_; refine ld rfl ?_) | (refine I.fa ?_; refine fa ?_) | (refine I.nc ?_; refine nc ?_) | refine mN ?_ | refine mU ?_ | fail)
    refine WX.call rfl hsy rfl ?_
    rintro _ _ ⟨y2, rfl, rfl, hd2⟩
    have hfc := rfiles_ct hd2 (by rw [List.length_map, List.length_append, List.length_singleton]; omega)
    generalize hx : RfQ.syn ⟨lastN l + 1, cutR.fr, 0, tms t cutR.fr.length⟩ = x at *
    have hxn : x.n = lastN l + 1 := by rw [← hx]; rfl
    have hnm : ((qs ++ [x]).map RfQ.pl).map (·.n) = qs.map (·.n) ++ [lastN l + 1] := by rw [List.map_map, List.map_append]; show qs.map (·.n) ++ [x.n] = _; rw [hxn]
    rw [hnm] at hfc
    have hnl : (qs.map (·.n) ++ [lastN l + 1]).length = qs.length + 1 := by simp
    have qokx : QOk (qs ++ [x]) := by
      have := syS_ok qokn (qs.length + 1)
      have e2 : syS (qs ++ [(⟨lastN l + 1, cutR.fr, 0, tms t cutR.fr.length⟩ : RfQ)]) (qs.length + 1) = qs.map RfQ.syn ++ [x] := by
        unfold syS
        rw [List.take_of_length_le (by simp), List.drop_eq_nil_of_le (by simp), List.append_nil, List.map_append, ← hx]; rfl
      rw [e2] at this
      refine ⟨?_, fun q hq => ?_, ?_, ?_⟩
      · have h3 := this.up
        rw [List.map_append, List.map_map] at h3
        rw [List.map_append]
        exact h3
      · rcases List.mem_append.1 hq with hq | hq
        · exact qokn.ok q (List.mem_append_left _ hq)
        · exact this.ok q (List.mem_append_right _ hq)
      · have h3 := this.used
        rw [List.map_append, List.map_map] at h3
        rw [List.map_append]
        exact h3
      · have h3 := this.len
        rw [List.length_append, List.length_map] at h3
        rw [List.length_append]; exact h3
    simp only [List.cons_append, List.nil_append]
    repeat' (first | refine go ?_ | refine mv ?_ | (refine I.ld ?_; refine ld rfl ?_) | (refine I.fa ?_; refine fa ?_) | (refine I.nc ?_; refine nc ?_) | fail)
    refine WX.call rfl hfc rfl ?_
    rintro u3 _ ⟨hn, rfl, hs3⟩
    have hr3 := hs3.rs
    simp only [List.cons_append, List.nil_append]
    repeat' (first | refine go ?_ | refine asg ?_ | fail)
    refine W.loop (α := Nat × Hp) (fun z => z.1 ≤ qs.length + 1 ∧ IsRk ((qs.drop z.1 ++ [x]).map RfQ.pl) (t + cutR.fr.length) d z.2) (fun z => [(0, .pointer (some ⟨w, 0, none⟩)), (5, u3), (6, .int .i64 (z.1 : Int))])
      (fun z => [VBk w d (lastN l + 1) torn, z.2, hn, R]) (fun z => qs.length + 1 - z.1) (0, y2) ⟨Nat.zero_le _, hd2⟩ (by repeat (first | exact Fsub.nil | refine Fsub.cons rfl ?_)) (Hsub.of_picks inferInstance) ?_
    rintro ⟨i, z⟩ ⟨hi, hdi⟩
    simp only [] at hi hdi ⊢
    by_cases hil : i < qs.length
    · obtain ⟨q, hq⟩ : ∃ q, qs[i]? = some q := ⟨_, List.getElem?_eq_getElem hil⟩
      have hqn : (qs.map (·.n) ++ [lastN l + 1])[i]? = some q.n := by rw [List.getElem?_append_left (by rw [List.length_map]; exact hil), List.getElem?_map, hq]; rfl
      have hdr : qs.drop i = q :: qs.drop (i + 1) := by rw [List.drop_eq_getElem_cons hil, (List.getElem?_eq_some_iff.1 hq).2]
      have hqlt : q.n < lastN l + 1 := by
        have hup := qokx.up
        rw [List.map_append, List.pairwise_append] at hup
        have := hup.2.2 q.n (List.mem_map.2 ⟨q, List.mem_of_getElem? hq, rfl⟩) x.n (by simp)
        omega
      have qoki : QOk (qs.drop i ++ [x]) := by
        rw [← List.take_append_drop i qs, List.append_assoc] at qokx
        exact qokx.suf
      have hrm := rremove_ct qoki hdi (k := 0) (q := q) (by rw [hdr]; rfl)
      rw [show (qs.drop i ++ [x]).eraseIdx 0 = qs.drop (i + 1) ++ [x] by rw [hdr]; rfl] at hrm
      repeat' (first | refine go ?_ | refine mv ?_ | (refine I.bin ?_; refine cm rfl rfl ?_) | (refine I.cond ?_; refine cP ?_) | (refine I.bi ?_; refine ln rfl (by assumption) ?_) | fail)
      refine W.quiet Tryz.mix (by kernel_rfl) ?_
      repeat' (first | refine go ?_ | refine mv ?_ | (refine I.ld ?_; first | refine ld rfl ?_ | refine lE rfl (by assumption) ?_) | (refine I.fa ?_; refine fa ?_) | (refine I.nc ?_; refine nc ?_) | (refine I.bin ?_; refine cm rfl rfl ?_) | (refine I.cond ?_; refine cP ?_) | (refine I.ix ?_; refine ix rfl rfl ?_) | fail)
      refine W.mix (List.replicate 8 true) [VBk w d (lastN l + 1) torn, hn] Tryz.mix (by kernel_rfl) ?_
      repeat' (first | refine go ?_ | refine mv ?_ | (refine I.ld ?_; first | refine ld rfl ?_ | refine lE rfl (by assumption) ?_) | (refine I.fa ?_; refine fa ?_) | (refine I.nc ?_; refine nc ?_) | refine mN ?_ | refine mU ?_ | (refine I.ix ?_; refine ix rfl rfl ?_) | fail)
      refine WX.call rfl hrm rfl ?_
      rintro _ _ ⟨z', rfl, rfl, hdz⟩
      simp only [List.cons_append, List.nil_append]
      repeat' (first | refine go ?_ | refine mv ?_ | refine asg ?_ | (refine I.bin ?_; refine ad ?_) | fail)
      exact D.round (i + 1, z') ⟨by simp only []; omega, hdz⟩ (by simp only []; omega) (by repeat (first | exact Fsub.nil | refine Fsub.cons rfl ?_)) (Hsub.of_picks inferInstance)
    · by_cases hie : i = qs.length
      · subst hie
        have hqn : (qs.map (·.n) ++ [lastN l + 1])[qs.length]? = some (lastN l + 1) := by
          have := List.getElem?_concat_length (l := qs.map (·.n)) (a := lastN l + 1)
          rwa [List.length_map] at this
        have hdz : IsRk ((qs.drop (qs.length + 1) ++ [x]).map RfQ.pl) (t + cutR.fr.length) d z := by
          rw [List.drop_eq_nil_of_le (by omega)]
          rw [List.drop_length] at hdi
          exact hdi
        repeat' (first | refine go ?_ | refine mv ?_ | (refine I.bin ?_; refine cm rfl rfl ?_) | (refine I.cond ?_; refine cP ?_) | (refine I.bi ?_; refine ln rfl (by assumption) ?_) | fail)
        refine W.quiet Tryz.mix (by kernel_rfl) ?_
        repeat' (first | refine go ?_ | refine mv ?_ | (refine I.ld ?_; first | refine ld rfl ?_ | refine lE rfl (by assumption) ?_) | refine asg ?_ | (refine I.fa ?_; refine fa ?_) | (refine I.nc ?_; refine nc ?_) | (refine I.bin ?_; first | refine cm rfl rfl ?_ | refine ad ?_) | (refine I.cond ?_; refine cN ?_) | (refine I.ix ?_; refine ix rfl rfl ?_) | fail)
        exact D.round (qs.length + 1, z) ⟨by simp only []; omega, hdz⟩ (by simp only []; omega) (by repeat (first | exact Fsub.nil | refine Fsub.cons rfl ?_)) (Hsub.of_picks inferInstance)
      · obtain rfl : i = qs.length + 1 := by omega
        rw [List.drop_eq_nil_of_le (by omega), List.nil_append] at hdi
        repeat' (first | refine go ?_ | refine mv ?_ | refine asg ?_ | (refine I.bin ?_; refine cm rfl rfl ?_) | (refine I.cond ?_; refine cN ?_) | (refine I.bi ?_; refine ln rfl (by assumption) ?_) | fail)
        refine D.fin1 [VBk w d (lastN l + 1) torn, z] _ rfl rfl ⟨z, rfl, rfl, [x], t + cutR.fr.length, ⟨.cons ⟨hxn, ?_, ?_, ?_⟩ .nil, ?_, ?_, by omega⟩, by omega, hdi⟩
        · rw [← hx]; show cutR.fr = _; rw [bytes_one]
        · rw [← hx]; show cutR.fr.length = _; unfold Lf.s7; rw [show [cutR].take 1 = [cutR] from rfl, bytes_one]
        · rw [← hx]; show cutR.fr.length + 0 = cutR.fr.length; omega
        · rw [allT_one, ← hx]; exact .nil
        · rw [allT_one, ← hx]; intro a ha; cases ha
  · rw [if_pos hE]
    have he0 : ¬ e = 0 := fun h0 => hE (hee.1 h0)
    have := hbad he0
    subst this
    repeat' (first | refine go ?_ | refine asg ?_ | (refine I.bin ?_; refine cm rfl rfl ?_) | (refine I.cond ?_; refine cP ?_) | refine mN ?_ | refine WX.nil ?_ | refine mU ?_ | fail)
    exact D.fin1 [VBk w d (lastN l) torn, y] _ rfl rfl ⟨y, rfl, rfl, qs, t, lr, by omega, hd⟩
end Go.Proofs.YtihaajncebdioaaGreat

/-
  A crash of the document's own disk, in plain Lean.
-/
set_option linter.unusedVariables false
set_option linter.unusedSimpArgs false
namespace Go.Proofs.YtihaajncebdioaaGreat
open Go Go.Sl

theorem cnt_cons (y : Int) (t : List Int) (m : Int) : cnt (y :: t) m = (if y ≤ m then 1 else 0) + cnt t m := by
  unfold cnt
  by_cases h : y ≤ m
  · rw [if_pos h, List.filter_cons_of_pos (by simpa using h), List.length_cons]; omega
  · rw [if_neg h, List.filter_cons_of_neg (by simpa using h)]; omega
theorem cnt_app (a b : List Int) (m : Int) : cnt (a ++ b) m = cnt a m + cnt b m := by unfold cnt; rw [List.filter_append, List.length_append]
theorem tw_cnt {m : Int} : ∀ {l : List Int}, l.Pairwise (· < ·) → (l.takeWhile fun x => decide (x ≤ m)).length = cnt l m
  | [], _ => rfl
  | y :: t, h => by
    rw [List.pairwise_cons] at h
    rw [cnt_cons]
    by_cases hy : y ≤ m
    · rw [if_pos hy, List.takeWhile_cons_of_pos (by simpa using hy), List.length_cons, tw_cnt h.2]; omega
    · rw [if_neg hy, List.takeWhile_cons_of_neg (by simpa using hy), cnt_none (fun x hx => by have := h.1 x hx; omega)]; rfl
theorem cnt_step {m : Int} : ∀ {l : List Int}, l.Pairwise (· < ·) → cnt l (m + 1) ≤ cnt l m + 1
  | [], _ => by simp [cnt]
  | y :: t, h => by
    rw [List.pairwise_cons] at h
    rw [cnt_cons, cnt_cons]
    have ih := cnt_step (m := m) h.2
    by_cases h1 : y ≤ m
    · rw [if_pos h1, if_pos (by omega)]; omega
    · rw [if_neg h1]
      have h2 : cnt t (m + 1) = 0 := cnt_none (fun x hx => by have := h.1 x hx; omega)
      split <;> omega
theorem last_cnt {qs : List RfQ} {t : Int} {k : Nat} {last : Int} (h : LastOk qs t k last) (hi : (allT qs).Pairwise (· < ·)) (hp : ∀ x ∈ allT qs, 0 < x ∧ x ≤ t) : cnt (allT qs) last = min k (allT qs).length := by
  obtain ⟨h0, h1, h2⟩ := h
  rcases Nat.lt_or_ge k (allT qs).length with hk | hk
  · obtain ⟨h3, h4⟩ := h2 hk
    have h5 := cnt_step (m := last) hi
    omega
  · rw [h1 hk, cnt_all (fun x hx => (hp x hx).2)]; omega
def fq (f : FileP) : RfQ := ⟨f.n, f.b, f.s, []⟩
theorem crash_eq {last : Int} : ∀ {l : List Lf} {qs : List RfQ} {k : Nat}, All2 FR l qs → (allT qs).Pairwise (· < ·) → cnt (allT qs) last = min k (allT qs).length → (qs.map fun q => q.crash last) = (crashL l k).map fq := by
  intro l qs k h
  induction h generalizing k with
  | nil => intro _ _; rfl
  | @cons f q l qs hf _ ih =>
    intro hi hc
    have e : allT (q :: qs) = q.ts ++ allT qs := rfl
    rw [e] at hi hc
    rw [List.pairwise_append] at hi
    rw [cnt_app, List.length_append] at hc
    have htw := tw_cnt (m := last) hi.1
    have hle := cnt_le q.ts last
    have hle2 := cnt_le (allT qs) last
    have hz : cnt q.ts last < q.ts.length → cnt (allT qs) last = 0 := fun hlt => by
      refine cnt_none fun x hx => ?_
      have hx0 : ∃ y ∈ q.ts, last < y := by
        refine Classical.byContradiction fun hn => ?_
        have : ∀ y ∈ q.ts, y ≤ last := fun y hy => Classical.byContradiction fun h2 => hn ⟨y, hy, by omega⟩
        rw [cnt_all this] at hlt
        omega
      obtain ⟨y, hy, hly⟩ := hx0
      have := hi.2.2 y hy x hx
      omega
    have hA : cnt q.ts last = min k q.ts.length := by
      by_cases hlt : cnt q.ts last < q.ts.length
      · have := hz hlt; omega
      · omega
    have hB : cnt (allT qs) last = min (k - min k q.ts.length) (allT qs).length := by
      by_cases hlt : cnt q.ts last < q.ts.length
      · have := hz hlt; omega
      · omega
    have hfe := hf.e
    have hL : (bytes (f.rs.drop f.k)).length = q.ts.length := by
      have h1 := congrArg List.length (bytes_take_drop f.rs f.k)
      rw [List.length_append] at h1
      have h2 := hf.s
      rw [hf.b] at hfe
      unfold Lf.s7 at h2
      omega
    rw [List.map_cons]
    unfold crashL
    rw [List.map_cons, hL, ih hi.2.1 hB]
    congr 1
    unfold RfQ.crash RfQ.cut RfQ.kp RfQ.tw fq
    rw [htw, hA, hf.n, hf.b, hf.s]
    rfl
theorem lost_cnt {last : Int} : ∀ {l : List Lf} {qs : List RfQ}, All2 FR l qs → (allT qs).Pairwise (· < ·) → lostS qs last + cnt (allT qs) last = (allT qs).length := by
  intro l qs h
  induction h with
  | nil => intro _; rfl
  | @cons f q l qs hf _ ih =>
    intro hi
    have e : allT (q :: qs) = q.ts ++ allT qs := rfl
    rw [e] at hi ⊢
    rw [List.pairwise_append] at hi
    have htw := tw_cnt (m := last) hi.1
    have hle := cnt_le q.ts last
    have hfe := hf.e
    have := ih hi.2.1
    rw [cnt_app, List.length_append]
    unfold lostS at this ⊢
    rw [List.map_cons, List.sum_cons]
    unfold RfQ.kp RfQ.tw at this ⊢
    rw [htw]
    omega
theorem crLost : ∀ (ps : List Pc) (fs : List FileP) (keep lost : Int), (∀ p ∈ ps, 0 ≤ p.n) → (ps.foldl crStep (fs, keep, lost)).2.2 = lost + (ps.map (·.n)).sum - min (max keep 0) (ps.map (·.n)).sum := by
  intro ps
  induction ps with
  | nil => intro fs keep lost _; simp only [List.foldl_nil, List.map_nil, List.sum_nil]; omega
  | cons p t ih =>
    intro fs keep lost h
    have hp := h p (List.mem_cons_self ..)
    have hs : 0 ≤ (t.map (·.n)).sum := by
      have : ∀ l : List Pc, (∀ p ∈ l, 0 ≤ p.n) → 0 ≤ (l.map (·.n)).sum := by
        intro l
        induction l with
        | nil => intro _; simp
        | cons x r ih => intro hx; have h1 := hx x (List.mem_cons_self ..); have h2 := ih fun y hy => hx y (List.mem_cons_of_mem _ hy); simp only [List.map_cons, List.sum_cons]; omega
      exact this t fun y hy => h y (List.mem_cons_of_mem _ hy)
    have hq : crQ keep p = min (max keep 0) p.n := by
      unfold crQ
      split <;> split at * <;> omega
    rw [List.foldl_cons]
    have e : crStep (fs, keep, lost) p = ((crStep (fs, keep, lost) p).1, keep - crQ keep p, lost + (p.n - crQ keep p)) := rfl
    rw [e, ih _ _ _ fun y hy => h y (List.mem_cons_of_mem _ hy), hq, List.map_cons, List.sum_cons]
    omega
theorem loose_T {l : List Lf} {qs : List RfQ} (h : All2 FR l qs) : (((l.map Lf.ps).flatten).map (·.n)).sum = ((allT qs).length : Int) ∧ ∀ p ∈ (l.map Lf.ps).flatten, 0 ≤ p.n := by
  induction h with
  | nil => exact ⟨rfl, by simp⟩
  | @cons f q l qs hf _ ih =>
    obtain ⟨h1, h2⟩ := ih
    have hL : (bytes (f.rs.drop f.k)).length = q.ts.length := by
      have h1 := congrArg List.length (bytes_take_drop f.rs f.k)
      rw [List.length_append] at h1
      have h2 := hf.s
      have hfe := hf.e
      rw [hf.b] at hfe
      unfold Lf.s7 at h2
      omega
    have hps : ((f.ps).map (·.n)).sum = ((bytes (f.rs.drop f.k)).length : Int) := by
      unfold Lf.ps
      generalize f.rs.drop f.k = rs
      induction rs with
      | nil => rfl
      | cons r t ih => rw [List.map_cons, List.map_cons, List.sum_cons, ih, bytes_cons, List.length_append]; push_cast; rfl
    refine ⟨?_, fun p hp => ?_⟩
    · rw [List.map_cons, List.flatten_cons, List.map_append, List.sum_append, h1, hps, hL]
      show _ = ((q.ts ++ allT qs).length : Int)
      rw [List.length_append]; push_cast; rfl
    · rw [List.map_cons, List.flatten_cons] at hp
      rcases List.mem_append.1 hp with hp | hp
      · unfold Lf.ps at hp
        obtain ⟨r, _, rfl⟩ := List.mem_map.1 hp
        exact Int.natCast_nonneg _
      · exact h2 p hp
theorem lost_eq {l : List Lf} {qs : List RfQ} {t : Int} (lr : LR l qs t) {keep last : Int} (h : LastOk qs t keep.toNat last) : (lostS qs last : Int) = (dk l).lost keep := by
  obtain ⟨h1, h2⟩ := loose_T lr.m
  have h3 := lost_cnt (last := last) lr.m lr.inc
  have h4 := last_cnt h lr.inc lr.pos
  have h5 : (dk l).lost keep = 0 + (((l.map Lf.ps).flatten).map (·.n)).sum - min (max keep 0) (((l.map Lf.ps).flatten).map (·.n)).sum := crLost _ _ _ _ h2
  rw [h5, h1]
  omega
end Go.Proofs.YtihaajncebdioaaGreat

/-
  The document's own log: Open.
-/
set_option linter.unusedVariables false
set_option linter.unusedSimpArgs false
namespace Go.Proofs.YtihaajncebdioaaGreat
open Go Go.Sl

theorem q_set {qp : List RfQ} {x y : RfQ} {post : List RfQ} : (qp ++ x :: post).set qp.length y = qp ++ y :: post := by rw [List.set_append_right _ _ (Nat.le_refl _), Nat.sub_self]; rfl
theorem q_del {qp : List RfQ} {x y : RfQ} {post : List RfQ} : (qp ++ x :: y :: post).eraseIdx (qp.length + 1) = qp ++ x :: post := by
  rw [List.eraseIdx_append_of_length_le (by omega)]
  rw [show qp.length + 1 - qp.length = 1 by omega]
  rfl
theorem QOk.cut1 {qp : List RfQ} {x : RfQ} {post : List RfQ} (h : QOk (qp ++ x :: post)) {m : Nat} (hm : m ≤ x.b.length) : QOk (qp ++ x.cut m :: post) where
  up := by have := h.up; simp only [List.map_append, List.map_cons] at this ⊢; exact this
  ok := fun q hq => by
    rcases List.mem_append.1 hq with hq | hq
    · exact h.ok q (by simp [hq])
    · rcases List.mem_cons.1 hq with rfl | hq
      · exact ⟨by show m + 0 = (x.b.take m).length; rw [List.length_take]; omega, by show ∀ y ∈ [], _; simp⟩
      · exact h.ok q (by simp [hq])
  used := by
    have := h.used
    simp only [List.map_append, List.map_cons, List.sum_append, List.sum_cons] at this ⊢
    have e : (x.cut m).b.length ≤ x.b.length := by show (x.b.take m).length ≤ _; rw [List.length_take]; omega
    omega
  len := by have := h.len; simp only [List.length_append, List.length_cons] at this ⊢; exact this
theorem QOk.del1 {qp : List RfQ} {x y : RfQ} {post : List RfQ} (h : QOk (qp ++ x :: y :: post)) : QOk (qp ++ x :: post) where
  up := by
    have := h.up
    simp only [List.map_append, List.map_cons, List.pairwise_append, List.pairwise_cons, List.mem_cons] at this ⊢
    refine ⟨this.1, ⟨fun a ha => this.2.1.1 a (.inr ha), this.2.1.2.2⟩, fun a ha b hb => this.2.2 a ha b ?_⟩
    rcases hb with hb | hb
    · exact .inl hb
    · exact .inr (.inr hb)
  ok := fun q hq => h.ok q (by
    rcases List.mem_append.1 hq with hq | hq
    · simp [hq]
    · rcases List.mem_cons.1 hq with rfl | hq <;> simp_all)
  used := by have := h.used; simp only [List.map_append, List.map_cons, List.sum_append, List.sum_cons] at this ⊢; omega
  len := by have := h.len; simp only [List.length_append, List.length_cons] at this ⊢; omega

set_option maxHeartbeats 8000000 in
theorem vopen_ct {pre : List Lf} {qp tail : List RfQ} (hm : All2 FR pre qp) (hgd : ∀ f ∈ pre, ∀ r ∈ f.rs, r.code = 0) (qok : QOk (qp ++ tail)) {t : Int} {d : Nat} {h : Hp} (hd : IsRk ((qp ++ tail).map RfQ.pl) t d h)
    {seg torn : Int} {qs' : List RfQ} {out : List Rec} (hcount : 6 * (recs pre).length ≤ 1048576)
    (hend : (tail = [] ∧ seg = lastN pre ∧ torn = 0 ∧ qs' = qp ∧ out = outF (recs pre)) ∨
      ∃ x post rs tt, tail = x :: post ∧ x.b = bytes rs ++ tt ∧ x.ts = [] ∧ (∀ r ∈ rs, r.code = 0) ∧ Short tt ∧ tt ≠ [] ∧ seg = x.n ∧ torn = ((tt.length + (post.map (fun q => q.b.length)).sum : Nat) : Int) ∧ qs' = qp ++ [x.cut (bytes rs).length] ∧ out = outF (recs pre ++ rs)) :
    Ct Tryz.prog 14 [.pointer (some ⟨d, 0, none⟩)] [h] (fun res H' => ∃ w u h' ho, res = .tuple #[.pointer (some ⟨w, 0, none⟩), u] ∧ H' = [VBk w d seg torn, h', ho] ∧ IsRk (qs'.map RfQ.pl) t d h' ∧ IsSl 51 out u ho) := by
  have hll := qok.len
  have hml := hm.len
  have hfc := rfiles_ct hd (by rw [List.length_map]; omega)
  have hnm : ((qp ++ tail).map RfQ.pl).map (·.n) = (qp ++ tail).map (·.n) := by rw [List.map_map]; rfl
  rw [hnm] at hfc
  have hnl : ((qp ++ tail).map (·.n)).length = pre.length + tail.length := by rw [List.length_map, List.length_append]; omega
  rw [List.length_append] at hll
  refine Ct.mk' Tryz.func14 rfl rfl rfl (fun g R => ?_)
  try simp only [List.cons_append]
  simp only [List.nil_append]
  repeat' (first | refine go ?_ | refine mv ?_ | refine asg ?_ | refine bd ?_ | refine bx rfl (fun _ => ?_) | fail)
  rename_i w
  refine WX.call rfl hfc rfl ?_
  rintro fu _ ⟨hn, rfl, hs⟩
  have hr := hs.rs
  simp only [List.cons_append, List.nil_append]
  repeat' (first | refine go ?_ | refine asg ?_ | fail)
  refine W.nilH ?_
  refine W.loop (α := Bool × Nat × Value × Hp × Hp × Int × Int)
    (fun z => (z.1 = false ∧ z.2.1 ≤ pre.length ∧ IsSl 51 (outF (recs (pre.take z.2.1))) z.2.2.1 z.2.2.2.1 ∧ IsRk ((qp ++ tail).map RfQ.pl) t d z.2.2.2.2.1 ∧ z.2.2.2.2.2.1 = lastN (pre.take z.2.1) ∧ z.2.2.2.2.2.2 = 0) ∨
      (z.1 = true ∧ ∃ x post m tl j, (tail = x :: post ∧ m ≤ x.b.length ∧ seg = x.n ∧ torn = ((tl + (post.map (fun q => q.b.length)).sum : Nat) : Int) ∧ qs' = qp ++ [x.cut m]) ∧ z.2.1 = pre.length + 1 + j ∧ j ≤ post.length ∧ IsSl 51 out z.2.2.1 z.2.2.2.1 ∧ IsRk ((qp ++ x.cut m :: post.drop j).map RfQ.pl) t d z.2.2.2.2.1 ∧ QOk (qp ++ x.cut m :: post.drop j) ∧ z.2.2.2.2.2.1 = x.n ∧ z.2.2.2.2.2.2 = ((tl + ((post.take j).map (fun q => q.b.length)).sum : Nat) : Int) ∧ tl ≤ 1048576))
    (fun z => [(0, .pointer (some ⟨d, 0, none⟩)), (4, .pointer (some ⟨w, 0, none⟩)), (5, z.2.2.1), (6, fu), (7, .bool z.1), (8, .int .i64 (z.2.1 : Int))])
    (fun z => [z.2.2.2.1, VBk w d z.2.2.2.2.2.1 z.2.2.2.2.2.2, z.2.2.2.2.1, hn, R]) (fun z => pre.length + tail.length + 1 - z.2.1) (false, 0, .slice none 0 0, [], h, 0, 0) (.inl ⟨rfl, Nat.zero_le _, IsSl.nil _, hd, rfl, rfl⟩) (by repeat (first | exact Fsub.nil | refine Fsub.cons rfl ?_)) (Hsub.of_picks inferInstance) ?_
  rintro ⟨bad, i, o, ho, y, sg, tn⟩ hP
  simp only [] at hP ⊢
  rcases hP with ⟨rfl, hi, hso, hdy, rfl, rfl⟩ | ⟨rfl, x, post, m, tl, j, ⟨rfl, hmx, rfl, rfl, rfl⟩, rfl, hj, hso, hdy, qoky, rfl, rfl, htl⟩
  · by_cases hC : i = pre.length ∧ tail = []
    · obtain ⟨rfl, rfl⟩ := hC
      simp only [List.length_nil] at hnl
      rcases hend with ⟨-, rfl, rfl, rfl, rfl⟩ | ⟨x, post, rs, tt, e, -⟩
      · rw [List.append_nil] at hdy
        rw [List.take_length] at hso ⊢
        repeat' (first | refine go ?_ | refine mv ?_ | refine asg ?_ | (refine I.bin ?_; refine cm rfl rfl ?_) | (refine I.cond ?_; refine cN ?_) | (refine I.bi ?_; refine ln rfl (by assumption) ?_) | fail)
        exact D.fin2 [VBk w d (lastN pre) 0, y, ho] _ rfl rfl rfl ⟨w, o, y, ho, rfl, rfl, hdy, hso⟩
      · cases e
    · obtain ⟨q, rs, tt, hqi, hqb, hgr, hcase⟩ : ∃ q rs tt, (qp ++ tail)[i]? = some q ∧ q.b = bytes rs ++ tt ∧ (∀ r ∈ rs, r.code = 0) ∧
          ((tt = [] ∧ ∃ f, pre[i]? = some f ∧ f.n = q.n ∧ f.rs = rs) ∨ (i = pre.length ∧ ∃ post, tail = q :: post ∧ q.ts = [] ∧ Short tt ∧ tt ≠ [] ∧ seg = q.n ∧ torn = ((tt.length + (post.map (fun q => q.b.length)).sum : Nat) : Int) ∧ qs' = qp ++ [q.cut (bytes rs).length] ∧ out = outF (recs pre ++ rs))) := by
        by_cases hlt : i < pre.length
        · obtain ⟨f, hf⟩ : ∃ f, pre[i]? = some f := ⟨_, List.getElem?_eq_getElem hlt⟩
          obtain ⟨q, hq⟩ : ∃ q, qp[i]? = some q := ⟨_, List.getElem?_eq_getElem (by omega)⟩
          have hfr := hm.get hf hq
          exact ⟨q, f.rs, [], by rw [List.getElem?_append_left (by omega)]; exact hq, by rw [List.append_nil]; exact hfr.b, hgd f (List.mem_of_getElem? hf), .inl ⟨rfl, f, hf, hfr.n.symm, rfl⟩⟩
        · obtain rfl : i = pre.length := by omega
          rcases hend with ⟨e, -⟩ | ⟨x, post, rs, tt, e1, e2, e3, e4, e5, e6, e7, e8, e9, e10⟩
          · exact absurd ⟨rfl, e⟩ hC
          · exact ⟨x, rs, tt, by rw [e1, hml, List.getElem?_append_right (Nat.le_refl _), Nat.sub_self]; rfl, e2, e4, .inr ⟨rfl, post, e1, e3, e5, e6, e7, e8, e9, e10⟩⟩
      have hqm := List.mem_of_getElem? hqi
      have hbl := qok.bl hqm
      rw [hqb, List.length_append] at hbl
      have hrl : 6 * rs.length ≤ 1048576 := by
        have := bytes_count hgr
        omega
      have hrt : (recs (pre.take i)).length ≤ (recs pre).length := by
        have := congrArg (fun l => (recs l).length) (List.take_append_drop i pre)
        simp only [recs_app, List.length_append] at this; omega
      have hnI : ((qp ++ tail).map (·.n))[i]? = some q.n := by rw [List.getElem?_map, hqi]; rfl
      have hrc := rread_ct hdy qok.srt (by rw [List.length_map, List.length_append]; omega) (q_nth hqi)
      have hil : i < pre.length + tail.length := by rw [← hnl]; exact (List.getElem?_eq_some_iff.1 hnI).1
      repeat' (first | refine go ?_ | refine mv ?_ | (refine I.ld ?_; refine lE rfl (by assumption) ?_) | (refine I.bin ?_; refine cm rfl rfl ?_) | (refine I.cond ?_; refine cP ?_) | (refine I.bi ?_; refine ln rfl (by assumption) ?_) | (refine I.ix ?_; refine ix rfl rfl ?_) | fail)
      refine WX.call rfl hrc rfl ?_
      rintro _ _ ⟨ub, rfl, rfl, hrb⟩
      have hrb : Rs (bytes rs ++ tt) ub y := by rw [← hqb]; exact hrb
      obtain ⟨bp, bc, rfl⟩ := hrb.len
      have hbc : (bytes rs ++ tt).length ≤ bc := by obtain ⟨a, cc, e, le, _⟩ := id hrb; cases e; exact le
      have hcl : (bytes rs ++ tt).length = (bytes rs).length + tt.length := List.length_append
      simp only [List.cons_append, List.nil_append]
      repeat' (first | refine go ?_ | refine mv ?_ | (refine I.ld ?_; refine lE rfl (by assumption) ?_) | refine asg ?_ | (refine I.fa ?_; refine fa ?_) | (refine I.nc ?_; refine nc ?_) | (refine I.cond ?_; refine cF ?_) | (refine I.ix ?_; refine ix rfl rfl ?_) | (refine I.st ?_; refine st rfl rfl ?_) | refine ex ?_ | fail)
      refine W.loop (α := Nat × Value × Hp) (fun z => z.1 ≤ rs.length ∧ IsSl 51 (outF (recs (pre.take i) ++ rs.take z.1)) z.2.1 z.2.2)
        (fun z => [(0, .pointer (some ⟨d, 0, none⟩)), (4, .pointer (some ⟨w, 0, none⟩)), (5, z.2.1), (6, fu), (7, .bool false), (8, .int .i64 (i : Int)), (9, .slice bp (bytes rs ++ tt).length bc), (11, .int .i64 ((bytes (rs.take z.1)).length : Int))])
        (fun z => [y, z.2.2, VBk w d q.n 0, hn, R]) (fun z => rs.length + 1 - z.1) (0, o, ho) ⟨Nat.zero_le _, by simpa using hso⟩ (by repeat (first | exact Fsub.nil | refine Fsub.cons rfl ?_)) (Hsub.of_picks inferInstance) ?_
      rintro ⟨j, o1, ho1⟩ ⟨hj, hso1⟩
      simp only [] at hj hso1 ⊢
      have hbt := bytes_take_le rs j
      by_cases hlt : j < rs.length
      · obtain ⟨r, hrj⟩ : ∃ r, rs[j]? = some r := ⟨_, List.getElem?_eq_getElem hlt⟩
        have hrc0 := hgr r (List.mem_of_getElem? hrj)
        have hgd1 := Rec.good hrc0
        have hle := hgd1.fr_le
        have htk : rs.take (j + 1) = rs.take j ++ [r] := by rw [List.take_succ_eq_append_getElem hlt, (List.getElem?_eq_some_iff.1 hrj).2]
        have hdj : rs.drop j = r :: rs.drop (j + 1) := by rw [List.drop_eq_getElem_cons hlt, (List.getElem?_eq_some_iff.1 hrj).2]
        have hat : (bytes (rs.take (j + 1))).length = (bytes (rs.take j)).length + r.fr.length := by rw [htk, bytes_app, List.length_append]; simp [bytes]
        have hxs : (bytes rs ++ tt).drop (bytes (rs.take j)).length = r.fr ++ (bytes (rs.drop (j + 1)) ++ tt) := by
          rw [← bytes_take_drop rs j, List.append_assoc, List.drop_left, hdj, bytes_cons, List.append_assoc]
        have hxl : (bytes rs ++ tt).length = (bytes (rs.take j)).length + (r.fr.length + (bytes (rs.drop (j + 1)) ++ tt).length) := by
          have := congrArg List.length hxs
          simp only [List.length_drop, List.length_append] at this ⊢
          omega
        have hcut := hrb.cut (m := 1) (lo := (bytes (rs.take j)).length) (hi := (bytes rs ++ tt).length) (mx := bc) rfl (by omega) (Nat.le_refl _) hbc
        rw [List.take_of_length_le (by rw [List.length_drop]; omega)] at hcut
        have hread := rread_ok hgd1 hxs hcut (by rw [List.length_drop]; omega)
        have hoc := outF_len (recs (pre.take i) ++ rs.take j)
        rw [List.length_append, List.length_take] at hoc
        repeat' (first | refine go ?_ | refine mv ?_ | (refine I.bin ?_; refine cm rfl rfl ?_) | (refine I.cond ?_; refine cP ?_) | (refine I.bi ?_; refine ln rfl (by assumption) ?_) | fail)
        refine I.sl ?_
        refine WX.cutFrom (lo := (bytes (rs.take j)).length) rfl rfl (by omega) hbc rfl ?_
        refine WX.callQ rfl hread rfl ?_
        repeat' (first | refine mv ?_ | refine ex ?_ | fail)
        refine WX.alloc rfl (fun ba => ?_)
        refine WX.hp (H' := [[(ba, .cells Rec.z.enc.toArray 51 (0, 0))], y, ho1, VBk w d q.n 0, hn, R]) rfl ?_
        refine I.st ?_
        refine WX.storeG (vs := r.enc) (b := ba) (i := 0) (cs := Rec.z.enc) rfl rfl rfl rfl rfl rfl ?_
        rw [setAt_whole (show Rec.z.enc.length = r.enc.length from rfl)]
        by_cases hk3 : r.k = 3
        · repeat' (first | (refine I.ld ?_; refine WX.loadA (b := ba) (i := 0) (cs := r.enc) (vs := r.enc) rfl rfl rfl rfl ?_) | refine go ?_ | refine mv ?_ | refine asg ?_ | (refine I.bin ?_; first | refine cm rfl rfl ?_ | refine ad ?_) | (refine I.cond ?_; refine cF ?_) | fail)
          refine I.bs ?_
          refine WX.lit (ys := [r]) rfl rfl rfl rfl rfl rfl (by decide) rfl (fun v1 h1 hs1 => ?_)
          refine WX.app rfl rfl hso1 hs1.rs rfl rfl (by decide) (by simp only [List.length_cons, List.length_nil, List.length_append] at hoc ⊢; omega) rfl (fun v2 h2 hs2 => ?_)
          repeat' (first | (refine I.ld ?_; refine WX.load (v := .int .i64 r.k) (b := ba) (i := 0) (cs := r.enc) rfl rfl rfl ?_) | refine go ?_ | refine asg ?_ | (refine I.fa ?_; refine fa ?_) | (refine I.bin ?_; refine cm rfl rfl ?_) | (refine I.cond ?_; refine cP ?_) | fail)
          refine D.as 11 (.int .i64 ((bytes (rs.take (j + 1))).length : Int)) rfl (by rw [hat]; rfl) ?_
          refine D.nilH ?_
          exact D.round (j + 1, .slice none 0 0, []) ⟨by simp only []; omega, by simp only []; rw [htk, ← List.append_assoc, outF_snoc, if_pos hk3]; exact IsSl.nil _⟩ (by simp only []; omega) (by repeat (first | exact Fsub.nil | refine Fsub.cons rfl ?_)) (Hsub.of_picks inferInstance)
        · repeat' (first | (refine I.ld ?_; refine WX.loadA (b := ba) (i := 0) (cs := r.enc) (vs := r.enc) rfl rfl rfl rfl ?_) | refine go ?_ | refine mv ?_ | refine asg ?_ | (refine I.bin ?_; first | refine cm rfl rfl ?_ | refine ad ?_) | (refine I.cond ?_; refine cF ?_) | fail)
          refine I.bs ?_
          refine WX.lit (ys := [r]) rfl rfl rfl rfl rfl rfl (by decide) rfl (fun v1 h1 hs1 => ?_)
          refine WX.app rfl rfl hso1 hs1.rs rfl rfl (by decide) (by simp only [List.length_cons, List.length_nil, List.length_append] at hoc ⊢; omega) rfl (fun v2 h2 hs2 => ?_)
          repeat' (first | (refine I.ld ?_; refine WX.load (v := .int .i64 r.k) (b := ba) (i := 0) (cs := r.enc) rfl rfl rfl ?_) | refine go ?_ | refine asg ?_ | (refine I.fa ?_; refine fa ?_) | (refine I.bin ?_; refine cm rfl rfl ?_) | (refine I.cond ?_; refine cN ?_) | fail)
          refine D.as 11 (.int .i64 ((bytes (rs.take (j + 1))).length : Int)) rfl (by rw [hat]; rfl) ?_
          exact D.round (j + 1, v2, h2) ⟨by simp only []; omega, by simp only []; rw [htk, ← List.append_assoc, outF_snoc, if_neg hk3]; exact hs2⟩ (by simp only []; omega) (by repeat (first | exact Fsub.nil | refine Fsub.cons rfl ?_)) (Hsub.of_picks inferInstance)
      · obtain rfl : j = rs.length := by omega
        rw [List.take_length] at hso1 hbt ⊢
        rcases hcase with ⟨rfl, f, hf, hfn, rfl⟩ | ⟨rfl, post, rfl, hts, hsh, htn, rfl, rfl, rfl, rfl⟩
        · simp only [List.length_nil, Nat.add_zero] at hcl
          have hip := (List.getElem?_eq_some_iff.1 hf).1
          repeat' (first | refine go ?_ | refine mv ?_ | refine asg ?_ | (refine I.bin ?_; first | refine cm rfl rfl ?_ | refine ad ?_) | (refine I.cond ?_; first | refine cF ?_ | refine cN ?_) | (refine I.bi ?_; refine ln rfl (by assumption) ?_) | fail)
          rw [← recs_take hf] at hso1
          rw [← hfn, ← lastN_take hf]
          exact D.round (false, i + 1, o1, ho1, y, lastN (pre.take (i + 1)), 0) (.inl ⟨rfl, by simp only []; omega, hso1, hdy, rfl, rfl⟩) (by simp only []; omega) (by repeat (first | exact Fsub.nil | refine Fsub.cons rfl ?_)) (Hsub.of_picks inferInstance)
        · obtain ⟨r, k, hrc0, hk, rfl⟩ := hsh
          have hgd1 := Rec.good hrc0
          have hle := hgd1.fr_le
          have htl : 0 < (r.fr.take k).length := List.length_pos_iff.2 htn
          have hkl : (r.fr.take k).length = k := by rw [List.length_take]; omega
          have hcut := hrb.cut (m := 1) (lo := (bytes rs).length) (hi := (bytes rs ++ r.fr.take k).length) (mx := bc) rfl (by omega) (Nat.le_refl _) hbc
          rw [List.take_of_length_le (by rw [List.length_drop]; omega), List.drop_left] at hcut
          have hread := rread_short hgd1 hk (by omega) rfl hcut
          rw [List.take_length] at hso1
          have htr := rtrunc_ct qok hdy hqi hts (m := (bytes rs).length) (by rw [hqb, List.length_append]; omega)
          rw [hml, q_set] at htr
          repeat' (first | refine go ?_ | refine mv ?_ | (refine I.bin ?_; refine cm rfl rfl ?_) | (refine I.cond ?_; refine cP ?_) | (refine I.bi ?_; refine ln rfl (by assumption) ?_) | fail)
          refine I.sl ?_
          refine WX.cutFrom (lo := (bytes rs).length) rfl rfl (by omega) hbc rfl ?_
          refine WX.callQ rfl hread rfl ?_
          repeat' (first | refine mv ?_ | refine ex ?_ | fail)
          refine WX.alloc rfl (fun ba => ?_)
          refine WX.hp (H' := [[(ba, .cells Rec.z.enc.toArray 51 (0, 0))], y, ho1, VBk w d q.n 0, hn, R]) rfl ?_
          refine I.st ?_
          refine WX.storeG (vs := Rec.z.enc) (b := ba) (i := 0) (cs := Rec.z.enc) rfl rfl rfl rfl rfl rfl ?_
          rw [setAt_whole rfl]
          repeat' (first | refine go ?_ | refine mv ?_ | (refine I.ld ?_; first | refine ld rfl ?_ | refine lE rfl (by assumption) ?_) | refine asg ?_ | (refine I.fa ?_; refine fa ?_) | (refine I.nc ?_; refine nc ?_) | (refine I.bin ?_; first | refine cm rfl rfl ?_ | refine ad ?_ | refine su ?_) | (refine I.cond ?_; refine cT ?_) | (refine I.bi ?_; refine ln rfl (by assumption) ?_) | (refine I.ix ?_; refine ix rfl rfl ?_) | (refine I.st ?_; refine st rfl rfl ?_) | refine zY ?_ | fail)
          refine WX.call rfl htr rfl ?_
          rintro _ _ ⟨y0, rfl, rfl, hd0⟩
          have e0 : (0 + ((bytes rs ++ r.fr.take k).length : Int) - ((bytes rs).length : Int)) = (((r.fr.take k).length + ((post.take 0).map (fun q => q.b.length)).sum : Nat) : Int) := by
            simp only [List.length_append, List.take_zero, List.map_nil, List.sum_nil]; omega
          rw [e0]
          simp only [List.cons_append, List.nil_append]
          repeat' (first | refine go ?_ | refine mv ?_ | refine asg ?_ | (refine I.bin ?_; refine ad ?_) | fail)
          exact D.round (true, pre.length + 1 + 0, o1, ho1, y0, q.n, (((r.fr.take k).length + ((post.take 0).map (fun q => q.b.length)).sum : Nat) : Int))
            (.inr ⟨rfl, q, post, (bytes rs).length, (r.fr.take k).length, 0, ⟨rfl, by rw [hqb, List.length_append]; omega, rfl, rfl, rfl⟩, rfl, Nat.zero_le _, hso1, hd0, qok.cut1 (by rw [hqb, List.length_append]; omega), rfl, rfl, by omega⟩) (by simp only [List.length_cons]; omega) (by repeat (first | exact Fsub.nil | refine Fsub.cons rfl ?_)) (Hsub.of_picks inferInstance)
  · have htc : (x :: post).length = post.length + 1 := rfl
    rw [htc] at hnl
    by_cases hjl : j < post.length
    · obtain ⟨q, hq⟩ : ∃ q, post[j]? = some q := ⟨_, List.getElem?_eq_getElem hjl⟩
      have hdr : post.drop j = q :: post.drop (j + 1) := by rw [List.drop_eq_getElem_cons hjl, (List.getElem?_eq_some_iff.1 hq).2]
      have htk : ((post.take (j + 1)).map (fun q => q.b.length)).sum = ((post.take j).map (fun q => q.b.length)).sum + q.b.length := by
        rw [List.take_succ_eq_append_getElem hjl, (List.getElem?_eq_some_iff.1 hq).2]; simp
      have hle2 := sum_take_le (fun q : RfQ => q.b.length) post (j + 1)
      have hus := qok.used
      rw [List.map_append, List.map_cons, List.sum_append, List.sum_cons] at hus
      have hnI : ((qp ++ x :: post).map (·.n))[pre.length + 1 + j]? = some q.n := by
        rw [List.getElem?_map, hml, List.getElem?_append_right (by omega), show qp.length + 1 + j - qp.length = j + 1 by omega, List.getElem?_cons_succ, hq]; rfl
      rw [hdr] at hdy qoky
      have hqi : (qp ++ x.cut m :: q :: post.drop (j + 1))[qp.length + 1]? = some q := by
        rw [List.getElem?_append_right (by omega), show qp.length + 1 - qp.length = 1 by omega]; rfl
      have hql := qoky.len
      have hrc := rread_ct hdy qoky.srt (by rw [List.length_map]; omega) (q_nth hqi)
      have hrm := rremove_ct qoky hdy hqi
      rw [q_del] at hrm
      repeat' (first | refine go ?_ | refine mv ?_ | (refine I.ld ?_; refine lE rfl (by assumption) ?_) | (refine I.bin ?_; refine cm rfl rfl ?_) | (refine I.cond ?_; refine cP ?_) | (refine I.bi ?_; refine ln rfl (by assumption) ?_) | (refine I.ix ?_; refine ix rfl rfl ?_) | fail)
      refine WX.call rfl hrc rfl ?_
      rintro _ _ ⟨ub, rfl, rfl, hrb⟩
      have hrb : Rs q.b ub y := hrb
      obtain ⟨bp, bc, rfl⟩ := hrb.len
      simp only [List.cons_append, List.nil_append]
      repeat' (first | refine go ?_ | refine mv ?_ | (refine I.ld ?_; first | refine ld rfl ?_ | refine lE rfl (by assumption) ?_) | refine asg ?_ | (refine I.fa ?_; refine fa ?_) | (refine I.nc ?_; refine nc ?_) | (refine I.bin ?_; refine ad ?_) | (refine I.cond ?_; refine cT ?_) | (refine I.bi ?_; refine ln rfl (by assumption) ?_) | (refine I.ix ?_; refine ix rfl rfl ?_) | (refine I.st ?_; refine st rfl rfl ?_) | refine ex ?_ | fail)
      refine WX.call rfl hrm rfl ?_
      rintro _ _ ⟨y2, rfl, rfl, hd2⟩
      have e1 : (((tl + ((post.take j).map (fun q => q.b.length)).sum : Nat) : Int) + (q.b.length : Int)) = ((tl + ((post.take (j + 1)).map (fun q => q.b.length)).sum : Nat) : Int) := by rw [htk]; omega
      rw [e1]
      simp only [List.cons_append, List.nil_append]
      repeat' (first | refine go ?_ | refine mv ?_ | refine asg ?_ | (refine I.bin ?_; refine ad ?_) | fail)
      exact D.round (true, pre.length + 1 + (j + 1), o, ho, y2, x.n, ((tl + ((post.take (j + 1)).map (fun q => q.b.length)).sum : Nat) : Int))
        (.inr ⟨rfl, x, post, m, tl, j + 1, ⟨rfl, hmx, rfl, rfl, rfl⟩, rfl, by omega, hso, hd2, qoky.del1, rfl, rfl, htl⟩) (by simp only [List.length_cons]; omega) (by repeat (first | exact Fsub.nil | refine Fsub.cons rfl ?_)) (Hsub.of_picks inferInstance)
    · obtain rfl : j = post.length := by omega
      rw [List.drop_length] at hdy
      rw [List.take_length]
      repeat' (first | refine go ?_ | refine mv ?_ | refine asg ?_ | (refine I.bin ?_; refine cm rfl rfl ?_) | (refine I.cond ?_; refine cN ?_) | (refine I.bi ?_; refine ln rfl (by assumption) ?_) | fail)
      exact D.fin2 [VBk w d x.n ((tl + (post.map (fun q => q.b.length)).sum : Nat) : Int), y, ho] _ rfl rfl rfl ⟨w, o, y, ho, rfl, rfl, hdy, hso⟩
end Go.Proofs.YtihaajncebdioaaGreat

/-
  Open at both, behind a crash at both.
-/
set_option linter.unusedVariables false
set_option linter.unusedSimpArgs false
namespace Go.Proofs.YtihaajncebdioaaGreat
open Go Go.Sl

theorem vopen_whole {l : List Lf} (ok : LOk l) {d : Nat} {h : Hp} {T : Int} (hd : RD l d h T) :
    Ct Tryz.prog 14 [.pointer (some ⟨d, 0, none⟩)] [h] (fun res H' => ∃ w u h' ho, res = .tuple #[.pointer (some ⟨w, 0, none⟩), u] ∧ H' = [VBk w d (lastN l) 0, h', ho] ∧ RD l d h' T ∧ IsSl 51 (outF (recs l)) u ho) := by
  obtain ⟨qs, t, lr, ht, hd⟩ := hd
  have hc := recs_count ok.good
  have hu := ok.used
  have hd' : IsRk ((qs ++ []).map RfQ.pl) t d h := by rw [List.append_nil]; exact hd
  refine Ct.mono (vopen_ct (tail := []) lr.m ok.good (by rw [List.append_nil]; exact lr.q ok.toLUp) hd' (by omega) (.inl ⟨rfl, rfl, rfl, rfl, rfl⟩)) ?_
  rintro r H' ⟨w, u, h', ho, e1, e2, e3, e4⟩
  exact ⟨w, u, h', ho, e1, e2, ⟨qs, t, lr, ht, e3⟩, e4⟩

theorem full_loose0 {l : List Lf} (h : ∀ f ∈ l, f.full = f) : (dk l).loose = [] := by
  unfold dk
  rw [List.flatten_eq_nil_iff]
  intro z hz
  obtain ⟨x, hx, rfl⟩ := List.mem_map.1 hz
  rw [← h x hx]
  exact x.full_ps
theorem fr_full {f : Lf} (h : f.full = f) : FR f (fq f.file) := by
  have hs : f.s7 = (bytes f.rs).length := by
    have := congrArg Lf.k h
    unfold Lf.s7
    rw [show f.k = f.rs.length from this.symm, List.take_length]
  exact ⟨rfl, rfl, rfl, by show f.s7 + 0 = _; rw [hs]; rfl⟩
theorem all_full : ∀ {l : List Lf}, (∀ f ∈ l, f.full = f) → All2 FR l (l.map fun f => fq f.file)
  | [], _ => .nil
  | f :: t, h => .cons (fr_full (h f (List.mem_cons_self ..))) (all_full fun x hx => h x (List.mem_cons_of_mem _ hx))
theorem fq_allT (xs : List FileP) : allT (xs.map fq) = [] := by
  unfold allT
  rw [List.flatten_eq_nil_iff]
  intro z hz
  obtain ⟨x, hx, rfl⟩ := List.mem_map.1 hz
  obtain ⟨y, _, rfl⟩ := List.mem_map.1 hx
  rfl
/-- Behind a crash both tell the same. -/
theorem both_open {l : List Lf} (ok : LOk l) (q : Nat) : ∃ l' torn, LOk l' ∧
    (∀ {d : Nat} {h : Hp}, IsDk ⟨crashL l q, []⟩ d h → Ct Tryz.prog 9 [.pointer (some ⟨d, 0, none⟩)] [h] (fun res H' => ∃ w u h' ho, res = .tuple #[.pointer (some ⟨w, 0, none⟩), u] ∧ H' = [WBk w d (lastN l') torn, h', ho] ∧ IsDk (dk l') d h' ∧ IsSl 51 (outF (recs l')) u ho)) ∧
    (∀ {d : Nat} {h : Hp} {t T : Int}, 0 ≤ t → t ≤ T → IsRk (((crashL l q).map fq).map RfQ.pl) t d h → Ct Tryz.prog 14 [.pointer (some ⟨d, 0, none⟩)] [h] (fun res H' => ∃ w u h' ho, res = .tuple #[.pointer (some ⟨w, 0, none⟩), u] ∧ H' = [VBk w d (lastN l') torn, h', ho] ∧ RD l' d h' T ∧ IsSl 51 (outF (recs l')) u ho)) := by
  rcases crash_split l q ok.good ok.k ok.tail with ⟨l', m, h1, h2, h3, h4, h5⟩ | ⟨a, f, b, pre, j, t, m, h1, h2, h3, h4, h5, h6, h7, h8, h9⟩
  · have ok' := h2.ok ok
    refine ⟨l', 0, ok', fun {d h} hd => ?_, fun {d h t T} ht0 ht hd => ?_⟩
    · have e : (⟨crashL l q, []⟩ : DkS) = dk l' := by
        have := full_loose0 h2.full
        unfold dk at this ⊢
        rw [h1]
        simp only [] at this
        rw [this]
      rw [e] at hd
      exact open_whole ok' hd
    · rw [h1] at hd
      have e : (l'.map Lf.file).map fq = l'.map fun f => fq f.file := by rw [List.map_map]; rfl
      rw [e] at hd
      refine vopen_whole ok' ⟨_, t, ⟨all_full h2.full, ?_, ?_, ht0⟩, ht, hd⟩
      · rw [← e, fq_allT]; exact .nil
      · rw [← e, fq_allT]; simp
  · obtain ⟨ox, ok2⟩ := crash_xok ok h1 h2 h6
    have hg : ∀ r ∈ f.rs.take j, r.code = 0 := fun r hr => ok.good f (by rw [h1]; simp) r (List.mem_of_mem_take hr)
    refine ⟨pre ++ [⟨f.n, f.rs.take j, (f.rs.take j).length⟩], ((t.length + ((b.map (fun g => (⟨g.n, [], 0⟩ : FileP))).map (·.b.length)).sum : Nat) : Int), ok2, fun {d h} hd => ?_, fun {d h tm T} ht0 ht hd => ?_⟩
    · have e : (⟨crashL l q, []⟩ : DkS) = dkX pre ⟨f.n, bytes (f.rs.take j) ++ t, (bytes (f.rs.take j) ++ t).length⟩ (b.map (fun g => ⟨g.n, [], 0⟩)) := by unfold dkX; rw [h3]
      rw [e] at hd
      refine Ct.mono (open_torn ox rfl rfl hg h4 h5 hd) ?_
      rintro r H' ⟨w, u, h', ho, e1, e2, e3, e4⟩
      exact ⟨w, u, h', ho, e1, by rw [lastN_app]; exact e2, e3, by rw [recs_app, recs_one]; exact e4⟩
    · rw [h3] at hd
      have hpf := ox.full
      have e : (pre.map Lf.file ++ (⟨f.n, bytes (f.rs.take j) ++ t, (bytes (f.rs.take j) ++ t).length⟩ : FileP) :: b.map (fun g => ⟨g.n, [], 0⟩)).map fq = (pre.map fun f => fq f.file) ++ fq ⟨f.n, bytes (f.rs.take j) ++ t, (bytes (f.rs.take j) ++ t).length⟩ :: (b.map fun g => fq ⟨g.n, [], 0⟩) := by
        rw [List.map_append, List.map_cons, List.map_map, List.map_map]; rfl
      have hqo : QOk ((pre.map fun f => fq f.file) ++ fq ⟨f.n, bytes (f.rs.take j) ++ t, (bytes (f.rs.take j) ++ t).length⟩ :: (b.map fun g => fq ⟨g.n, [], 0⟩)) := by
        rw [← e]
        refine ⟨?_, ?_, ?_, ?_⟩
        · rw [List.map_map]; exact ox.up
        · intro y hy
          rw [e] at hy
          rcases List.mem_append.1 hy with hy | hy
          · obtain ⟨g', hg', rfl⟩ := List.mem_map.1 hy
            exact ⟨(fr_full (hpf g' hg')).e, by show ∀ x ∈ [], _; simp⟩
          · rcases List.mem_cons.1 hy with rfl | hy
            · exact ⟨rfl, by show ∀ x ∈ [], _; simp⟩
            · obtain ⟨g', _, rfl⟩ := List.mem_map.1 hy
              exact ⟨rfl, by show ∀ x ∈ [], _; simp⟩
        · rw [List.map_map]; exact ox.used
        · rw [List.length_map]; exact ox.len
      rw [e] at hd
      have hc := recs_count (l := pre) ox.good
      have hup := ox.used
      unfold DkS.used dkX at hup
      simp only [List.map_append, List.sum_append] at hup
      rw [dk_used] at hc
      have hme : ((pre.map Lf.file).map (fun x => x.b.length)) = pre.map (fun f => (bytes f.rs).length) := by rw [List.map_map]; rfl
      rw [hme] at hup
      refine Ct.mono (vopen_ct (all_full hpf) ox.good hqo hd (by omega) (.inr ⟨_, _, f.rs.take j, t, rfl, rfl, rfl, hg, h4, h5, rfl, rfl, rfl, rfl⟩)) ?_
      rintro r H' ⟨w, u, h', ho, e1, e2, e3, e4⟩
      refine ⟨w, u, h', ho, e1, ?_, ⟨_, tm, ⟨(all_full hpf).app (.cons ⟨rfl, ?_, ?_, ?_⟩ .nil), ?_, ?_, ht0⟩, ht, e3⟩, by rw [recs_app, recs_one]; exact e4⟩
      · rw [lastN_app, e2]
        rw [List.map_map, List.map_map]
        rfl
      · show (bytes (f.rs.take j) ++ t).take (bytes (f.rs.take j)).length = _; rw [List.take_left]
      · show (bytes (f.rs.take j)).length = _; unfold Lf.s7; simp only [List.take_length]
      · show (bytes (f.rs.take j)).length + 0 = ((bytes (f.rs.take j) ++ t).take (bytes (f.rs.take j)).length).length; rw [List.take_left]; omega
      · rw [allT_app, allT_one, show (pre.map fun f => fq f.file) = (pre.map Lf.file).map fq from by rw [List.map_map]; rfl, fq_allT]; exact .nil
      · rw [allT_app, allT_one, show (pre.map fun f => fq f.file) = (pre.map Lf.file).map fq from by rw [List.map_map]; rfl, fq_allT]; intro x hx; cases hx
end Go.Proofs.YtihaajncebdioaaGreat

/-
  Both disks hold the same.
-/
set_option linter.unusedVariables false
set_option linter.unusedSimpArgs false
namespace Go.Proofs.YtihaajncebdioaaGreat
open Go Go.Sl

theorem psum : ∀ {l : List Pc} {k : Nat}, (∀ p ∈ l, 0 ≤ p.n) → 0 ≤ ((l.take k).map (·.n)).sum ∧ ((l.take k).map (·.n)).sum ≤ (l.map (·.n)).sum
  | [], k, _ => by simp
  | p :: t, 0, h => by
    have h1 := h p (List.mem_cons_self ..)
    have h2 := (psum (l := t) (k := t.length) fun x hx => h x (List.mem_cons_of_mem _ hx)).1
    rw [List.take_length] at h2
    simp only [List.take_zero, List.map_nil, List.sum_nil, List.map_cons, List.sum_cons]; omega
  | p :: t, k + 1, h => by
    have h1 := h p (List.mem_cons_self ..)
    have h2 := psum (l := t) (k := k) fun x hx => h x (List.mem_cons_of_mem _ hx)
    simp only [List.take_succ_cons, List.map_cons, List.sum_cons]; omega
theorem tsum (qs : List RfQ) : (qs.map fun q => q.ts.length).sum = (allT qs).length := by
  unfold allT
  rw [List.length_flatten, List.map_map]
  rfl

set_option maxHeartbeats 2000000 in
theorem disks_ct {l : List Lf} (ok : LOk l) {d e : Nat} {h y : Hp} {T : Int} (hd : IsDk (dk l) d h) (hr : RD l e y T) :
    Ct Tryz.prog 24 [.pointer (some ⟨d, 0, none⟩), .pointer (some ⟨e, 0, none⟩)] [h, y] (fun r H' => r = .bool true ∧ H' = [h, y]) := by
  obtain ⟨qs, t, lr, ht, hr⟩ := hr
  have qok := lr.q ok.toLUp
  have hll := ok.len
  have hml := lr.m.len
  have haT := allT_le qok
  have hfc := files_ct hd (by rw [ok.fs_len]; omega)
  rw [dk_names ok] at hfc
  have hrf := rfiles_ct hr (by rw [List.length_map]; omega)
  have hnm : (qs.map RfQ.pl).map (·.n) = l.map (·.n) := by rw [List.map_map, ← lr.names]; rfl
  rw [hnm] at hrf
  have hnl : (l.map (·.n)).length = l.length := List.length_map _
  obtain ⟨hT1, hT2⟩ := loose_T lr.m
  have hlo := loose_ct hd ok.loose (fun k _ => by
    have := psum (k := k) hT2
    rw [hT1] at this
    show -9223372036854775808 ≤ ((((l.map Lf.ps).flatten).take k).map (·.n)).sum ∧ ((((l.map Lf.ps).flatten).take k).map (·.n)).sum ≤ 9223372036854775807
    omega)
  have hlN : (dk l).looseN = ((allT qs).length : Int) := hT1
  rw [hlN] at hlo
  have hlr := rloose_ct qok hr
  rw [tsum] at hlr
  refine Ct.mk' Tryz.func24 rfl rfl rfl (fun g R => ?_)
  try simp only [List.cons_append]
  simp only [List.nil_append]
  repeat' (first | refine go ?_ | refine mv ?_ | refine asg ?_ | fail)
  refine WX.call rfl hfc rfl ?_
  rintro u1 _ ⟨hn1, rfl, hs1⟩
  have hr1 := hs1.rs
  simp only [List.cons_append, List.nil_append]
  repeat' (first | refine mv ?_ | fail)
  refine WX.call rfl hrf rfl ?_
  rintro u2 _ ⟨hn2, rfl, hs2⟩
  have hr2 := hs2.rs
  simp only [List.cons_append, List.nil_append]
  repeat' (first | refine go ?_ | refine mv ?_ | refine asg ?_ | (refine I.gd ?_; first | refine gy ?_ | refine gF ?_) | (refine I.bin ?_; refine cm rfl rfl ?_) | (refine I.bi ?_; refine ln rfl (by assumption) ?_) | fail)
  refine WX.callQ rfl hlo rfl ?_
  repeat' (first | refine mv ?_ | (refine I.gd ?_; refine gy ?_) | fail)
  refine WX.callQ rfl hlr rfl ?_
  repeat' (first | refine go ?_ | refine asg ?_ | (refine I.gd ?_; refine gy ?_) | (refine I.bin ?_; refine cm rfl rfl ?_) | (refine I.pk ?_; refine pF ?_) | (refine I.cond ?_; refine cN ?_) | fail)
  refine W.loop (α := Nat) (fun i => i ≤ l.length) (fun i => [(0, .pointer (some ⟨d, 0, none⟩)), (1, .pointer (some ⟨e, 0, none⟩)), (5, u1), (6, u2), (7, .int .i64 (i : Int))]) (fun _ => [h, y, hn1, hn2, R]) (fun i => l.length - i) 0 (Nat.zero_le _) (by repeat (first | exact Fsub.nil | refine Fsub.cons rfl ?_)) (Hsub.of_picks inferInstance) ?_
  intro i hi
  by_cases hil : i < l.length
  · obtain ⟨f, hf⟩ : ∃ f, l[i]? = some f := ⟨_, List.getElem?_eq_getElem hil⟩
    obtain ⟨q, hq⟩ : ∃ q, qs[i]? = some q := ⟨_, List.getElem?_eq_getElem (by omega)⟩
    have hfr := lr.m.get hf hq
    have hqo := qok.ok q (List.mem_of_getElem? hq)
    have hbl := qok.bl (List.mem_of_getElem? hq)
    have hn : (l.map (·.n))[i]? = some f.n := by rw [List.getElem?_map, hf]; rfl
    have hdr : l = l.take i ++ f :: l.drop (i + 1) := by
      conv => lhs; rw [← List.take_append_drop i l, List.drop_eq_getElem_cons hil, (List.getElem?_eq_some_iff.1 hf).2]
    have hfind : (dk l).find f.n = some f.file := by rw [hdr] at ok ⊢; exact dk_find ok.toLUp
    have hrb : (dk l).readB f.n = bytes f.rs := by unfold DkS.readB; rw [hfind]; rfl
    have hfb := hfr.b
    have hrd := read_ct hd f.n (by rw [hrb, ← hfb]; omega)
    rw [hrb] at hrd
    have hrr := rread_ct hr qok.srt (by rw [List.length_map]; omega) (q_nth hq)
    rw [show q.pl.n = f.n from hfr.n, show q.pl.b = bytes f.rs from hfb] at hrr
    have hsy := synced_ct hd f.n
    have hsv : (dk l).synced f.n = q.s := by unfold DkS.synced; rw [hfind]; exact hfr.s.symm
    rw [hsv] at hsy
    have hry := rsynced_ct hr qok.srt (by rw [List.length_map]; omega) (q_nth hq) (s := q.s) (ts := q.ts) rfl hqo.p (by rw [RfQ.cml hqo]; omega)
    rw [show q.pl.n = f.n from hfr.n] at hry
    have hss : strOf (bytes f.rs) = strOf (bytes f.rs) := rfl
    repeat' (first | refine go ?_ | refine mv ?_ | (refine I.ld ?_; refine lE rfl (by assumption) ?_) | (refine I.bin ?_; refine cm rfl rfl ?_) | (refine I.cond ?_; refine cP ?_) | (refine I.bi ?_; refine ln rfl (by assumption) ?_) | (refine I.ix ?_; refine ix rfl rfl ?_) | fail)
    refine WX.call rfl hrd rfl ?_
    rintro _ _ ⟨ub, hbb, rfl, rfl, hsb⟩
    have hrbb := hsb.rs
    simp only [List.cons_append, List.nil_append]
    repeat' (first | refine go ?_ | refine mv ?_ | (refine I.ld ?_; refine lE rfl (by assumption) ?_) | refine asg ?_ | (refine I.ix ?_; refine ix rfl rfl ?_) | refine ex ?_ | fail)
    refine WX.call rfl hrr rfl ?_
    rintro _ _ ⟨uc, rfl, rfl, hrc⟩
    simp only [List.cons_append, List.nil_append]
    repeat' (first | refine go ?_ | refine mv ?_ | refine asg ?_ | refine ex ?_ | fail)
    refine W.mix (List.replicate 22 true ++ [false] ++ List.replicate 5 true ++ [false, true, true]) [hn1, hn2, hbb, y] Tryz.mix (by kernel_rfl) ?_
    repeat' (first | refine go ?_ | refine mv ?_ | (refine I.ld ?_; refine lE rfl (by assumption) ?_) | refine asg ?_ | (refine I.gd ?_; first | refine gy ?_ | refine gn ?_ | refine gF ?_ | refine gS (fun _ => ?_) (fun _ => ?_)) | (refine I.bin ?_; first | refine cm rfl rfl ?_ | refine nS ?_) | (refine I.pk ?_; first | refine pT ?_ | refine pF ?_) | (refine I.cond ?_; refine cT ?_) | refine mN ?_ | refine WX.nil ?_ | refine mU ?_ | refine mA ?_ | (refine I.ix ?_; refine ix rfl rfl ?_) | refine cv rfl (by assumption) ?_ | fail)
    · exact absurd hss (by assumption)
    · refine WX.callQ rfl hsy rfl ?_
      repeat' (first | refine go ?_ | refine mv ?_ | (refine I.ld ?_; refine lE rfl (by assumption) ?_) | (refine I.gd ?_; refine gy ?_) | refine mU ?_ | refine mA ?_ | (refine I.ix ?_; refine ix rfl rfl ?_) | fail)
      refine WX.callQ rfl hry rfl ?_
      repeat' (first | refine go ?_ | refine mv ?_ | refine asg ?_ | (refine I.gd ?_; refine gy ?_) | (refine I.bin ?_; first | refine cm rfl rfl ?_ | refine ad ?_) | (refine I.pk ?_; refine pF ?_) | (refine I.cond ?_; refine cN ?_) | refine mN ?_ | refine WX.nil ?_ | refine mU ?_ | fail)
      exact D.round (i + 1) (by omega) (by omega) (by repeat (first | exact Fsub.nil | refine Fsub.cons rfl ?_)) (Hsub.of_picks inferInstance)
  · repeat' (first | refine go ?_ | refine mv ?_ | refine asg ?_ | (refine I.bin ?_; refine cm rfl rfl ?_) | (refine I.cond ?_; refine cN ?_) | (refine I.bi ?_; refine ln rfl (by assumption) ?_) | fail)
    exact D.fin1 [h, y] _ rfl rfl ⟨rfl, rfl⟩
end Go.Proofs.YtihaajncebdioaaGreat

/-
  plays walks.
-/
set_option linter.unusedVariables false
set_option linter.unusedSimpArgs false
namespace Go.Proofs.YtihaajncebdioaaGreat
open Go Go.Sl

theorem rec_small {avs : List Av} {rss : List (List Rec)} (h : avs.length + (rss.map wAc).sum ≤ 400) {rs : List Rec} (hm : rs ∈ rss) : rs.length ≤ 400 ∧ ∀ r ∈ rs, r.size ≤ 1073741824 := by
  have h1 := sum_mem_le (List.mem_map.2 ⟨rs, hm, rfl⟩ : wAc rs ∈ rss.map wAc)
  unfold wAc at h1
  have h0 : rs.length + wRs rs ≤ 400 := by
    have : rs.length + wRs rs ≤ (rss.map wAc).sum := h1
    omega
  refine ⟨by omega, fun r hr => ?_⟩
  have h2 : r.size / 100 ≤ wRs rs := sum_mem_le (List.mem_map.2 ⟨r, hr, rfl⟩)
  omega
def r77 : Rec := ⟨77, Ent.z, Cfg.z, 0⟩

set_option maxHeartbeats 8000000 in
theorem plays_ct {avs : List Av} {rss : List (List Rec)} {v : Value} {hx : Hp} (hr : Rs avs v hx) (hl : avs.length = rss.length) (hmu : avs.length + (rss.map wAc).sum ≤ 400) (hrs : ∀ (i : Nat) (a : Av) (rs : List Rec), avs[i]? = some a → rss[i]? = some rs → Rs rs a.v hx)
    (han : ∀ a ∈ avs, -9223372036854775808 ≤ a.n ∧ a.n ≤ 9223372036854775807) {d e : Nat} {h y : Hp} (hd : IsDk (dk []) d h) (hy : RD [] e y 0) :
    Ct Tryz.prog 6 [.pointer (some ⟨d, 0, none⟩), .pointer (some ⟨e, 0, none⟩), v] [h, y, hx] (fun r H' => r = .bool true ∧ H' = [hx]) := by
  refine Ct.mk' Tryz.func6 rfl rfl rfl (fun g R => ?_)
  try simp only [List.cons_append]
  simp only [List.nil_append]
  repeat' (first | refine go ?_ | refine mv ?_ | refine asg ?_ | fail)
  refine WX.call rfl (open_whole LOk.nil hd) rfl ?_
  rintro _ _ ⟨w0, u1, h1, ho1, rfl, rfl, hd1, hs1⟩
  simp only [List.cons_append, List.nil_append]
  repeat' (first | refine go ?_ | refine mv ?_ | refine asg ?_ | refine ex ?_ | fail)
  refine WX.call rfl (vopen_whole LOk.nil hy) rfl ?_
  rintro _ _ ⟨w1, u2, y1, ho2, rfl, rfl, hy1, hs2⟩
  have hsm := same_ct hs1.rs hs2.rs (by decide) (by decide)
  rw [decide_eq_true rfl] at hsm
  simp only [List.cons_append, List.nil_append]
  repeat' (first | refine go ?_ | refine mv ?_ | refine asg ?_ | (refine I.gd ?_; refine gy ?_) | (refine I.bin ?_; refine np rfl rfl ?_) | refine ex ?_ | fail)
  refine WX.callQ rfl hsm rfl ?_
  repeat' (first | refine go ?_ | refine asg ?_ | (refine I.gd ?_; refine gy ?_) | (refine I.pk ?_; refine pF ?_) | (refine I.cond ?_; refine cF ?_) | (refine I.un ?_; refine nt ?_) | fail)
  refine W.loop (α := Nat × List Lf × Nat × Nat × Hp × Hp × Int) (fun x => x.1 ≤ avs.length ∧ LOk x.2.1 ∧ IsDk (dk x.2.1) d x.2.2.2.2.1 ∧ RD x.2.1 e x.2.2.2.2.2.1 (243 * ((x.1 : Int) + (((rss.take x.1).map wAc).sum : Nat))))
    (fun x => [(0, .pointer (some ⟨d, 0, none⟩)), (1, .pointer (some ⟨e, 0, none⟩)), (2, v), (7, .pointer (some ⟨x.2.2.1, 0, none⟩)), (9, .pointer (some ⟨x.2.2.2.1, 0, none⟩)), (11, .int .i64 (x.1 : Int))])
    (fun x => [WBk x.2.2.1 d (lastN x.2.1) x.2.2.2.2.2.2, VBk x.2.2.2.1 e (lastN x.2.1) x.2.2.2.2.2.2, x.2.2.2.2.1, x.2.2.2.2.2.1, hx, R]) (fun x => avs.length - x.1) (0, [], w0, w1, h1, y1, 0) ⟨Nat.zero_le _, LOk.nil, hd1, hy1.mono (by simp)⟩ (by repeat (first | exact Fsub.nil | refine Fsub.cons rfl ?_)) (Hsub.of_picks inferInstance) ?_
  rintro ⟨i, l, w, w2, h, y, torn⟩ ⟨hi, ok, hd, hy⟩
  simp only [] at hi ok hd hy ⊢
  by_cases hil : i < avs.length
  · obtain ⟨a, hai⟩ : ∃ a, avs[i]? = some a := ⟨_, List.getElem?_eq_getElem hil⟩
    obtain ⟨rs, hri⟩ : ∃ rs, rss[i]? = some rs := ⟨_, List.getElem?_eq_getElem (by omega)⟩
    have hra := hrs i a rs hai hri
    obtain ⟨hr4, hz4⟩ := rec_small hmu (List.mem_of_getElem? hri)
    obtain ⟨an1, an2⟩ := han a (List.mem_of_getElem? hai)
    have htk : ((rss.take (i + 1)).map wAc).sum = ((rss.take i).map wAc).sum + wAc rs := by
      rw [List.take_succ_eq_append_getElem (by omega), (List.getElem?_eq_some_iff.1 hri).2]; simp
    have hwr : rs.length ≤ wAc rs := by unfold wAc; omega
    have hle : ((rss.take (i + 1)).map wAc).sum ≤ (rss.map wAc).sum := by
      conv => rhs; rw [← List.take_append_drop (i + 1) rss]
      rw [List.map_append, List.sum_append]; omega
    obtain ⟨ak, ap, al, ac, an⟩ := a
    have hra : Rs rs (.slice ap al ac) hx := hra
    simp only [] at an1 an2
    generalize hT : 243 * ((i : Int) + (((rss.take i).map wAc).sum : Nat)) = T at hy
    have hT0 : 0 ≤ T ∧ T ≤ 97200 := by omega
    by_cases hk1 : ak = 1
    · subst hk1
      repeat' (first | refine go ?_ | refine mv ?_ | (refine I.ld ?_; refine lF rfl (by assumption) ?_) | (refine I.bin ?_; refine cm rfl rfl ?_) | (refine I.cond ?_; refine cP ?_) | (refine I.bi ?_; refine ln rfl (by assumption) ?_) | (refine I.ix ?_; refine ix rfl rfl ?_) | fail)
      refine WX.alloc rfl (fun b => ?_)
      repeat' (first | refine go ?_ | (refine I.ld ?_; refine ld rfl ?_) | refine asg ?_ | (refine I.fa ?_; refine fa ?_) | (refine I.bin ?_; refine cm rfl rfl ?_) | (refine I.cond ?_; refine cT ?_) | (refine I.st ?_; refine sG rfl rfl ?_) | fail)
      refine I.bs ?_
      refine WX.lit (ys := ([] : List Rec)) (vs := []) rfl rfl rfl rfl rfl rfl (by decide) rfl (fun v4 h4 hs4 => ?_)
      repeat' (first | (refine I.ld ?_; refine ld rfl ?_) | (refine I.fa ?_; refine fa ?_) | fail)
      refine WX.app rfl rfl hs4 hra rfl rfl (by decide) (by simp only [List.length_nil]; omega) rfl (fun v5 h5 hs5 => ?_)
      rw [List.nil_append] at hs5
      repeat' (first | refine bd ?_ | fail)
      refine I.bs ?_
      refine WX.lit (ys := [r77]) rfl rfl rfl rfl rfl rfl (by decide) rfl (fun v6 h6 hs6 => ?_)
      skip
      refine WX.app rfl rfl hs5 hs6.rs rfl rfl (by decide) (by simp only [List.length_cons, List.length_nil]; omega) rfl (fun v7 h7 hs7 => ?_)
      obtain ⟨p7, c7, rfl⟩ := hs7.rs.len
      have hg7 := hs7.rs
      have hgl : (rs ++ [r77]).length = rs.length + 1 := by rw [List.length_append]; rfl
      have htk7 := hg7.take (m := rs.length) (by omega)
      have hte : (rs ++ [r77]).take rs.length = rs := List.take_left' rfl
      rw [hte] at htk7
      have hgi : (rs ++ [r77])[rs.length]? = some r77 := List.getElem?_concat_length ..
      have hadd := add_ct (w := w) (torn := torn) ok hd htk7 (by omega) hz4
      have hvadd := vadd_ct (w := w2) (torn := torn) ok hy hra (by omega) (by omega) (by omega) hz4
      have hsa := same_ct htk7 hra (by omega) (by omega)
      rw [decide_eq_true rfl] at hsa
      repeat' (first | refine go ?_ | refine asg ?_ | fail)
      refine W.mix (List.replicate 6 true ++ [false] ++ List.replicate 3 true ++ [false] ++ List.replicate 9 true ++ [false] ++ List.replicate 12 true) [[(b, .cells (List.toArray (Enc.enc (⟨1, ap, al, ac, an⟩ : Av))) 56 (0, 0))], h7, hx] Tryz.mix (by kernel_rfl) ?_
      repeat' (first | refine go ?_ | refine mv ?_ | (refine I.ld ?_; refine ld rfl ?_) | (refine I.fa ?_; refine fa ?_) | refine mU ?_ | refine mA ?_ | (refine I.bi ?_; refine ln rfl (by assumption) ?_) | refine sl rfl rfl (by assumption) ?_ | fail)
      refine WX.call rfl hadd rfl ?_
      rintro _ _ ⟨h', rfl, rfl, hd'⟩
      simp only [List.cons_append, List.nil_append]
      repeat' (first | refine go ?_ | refine mv ?_ | (refine I.ld ?_; refine ld rfl ?_) | (refine I.fa ?_; refine fa ?_) | refine mU ?_ | refine mA ?_ | fail)
      refine WX.call rfl hvadd rfl ?_
      rintro _ _ ⟨y', rfl, rfl, hy'⟩
      simp only [List.cons_append, List.nil_append]
      repeat' (first | refine go ?_ | refine mv ?_ | (refine I.ld ?_; refine ld rfl ?_) | (refine I.gd ?_; first | refine gy ?_ | refine gF ?_) | (refine I.fa ?_; refine fa ?_) | (refine I.bin ?_; refine cm rfl rfl ?_) | refine mU ?_ | refine mA ?_ | (refine I.bi ?_; refine ln rfl (by assumption) ?_) | refine sl rfl rfl (by assumption) ?_ | fail)
      refine WX.callQ rfl hsa rfl ?_
      have ok' := ok.add rs
      repeat' (first | refine go ?_ | refine mv ?_ | (refine I.ld ?_; first | refine ld rfl ?_ | refine lE rfl (by assumption) ?_) | (refine I.gd ?_; refine gy ?_) | (refine I.fa ?_; first | refine fa ?_ | refine fE rfl ?_) | (refine I.bin ?_; refine cm rfl rfl ?_) | (refine I.pk ?_; refine pF ?_) | (refine I.cond ?_; refine cF ?_) | refine mN ?_ | refine WX.nil ?_ | refine mU ?_ | (refine I.bi ?_; refine ln rfl (by assumption) ?_) | (refine I.ix ?_; refine ix rfl rfl ?_) | (refine I.un ?_; refine nt ?_) | fail)
      have hRoomA := room_ct ok' hd' (w := w) (seg := lastN ((ladd l rs).1)) (torn := torn) an
      have hRoomB := vroom_ct ok' hy' (w := w2) (seg := lastN ((ladd l rs).1)) (torn := torn) an
      have hDisks := disks_ct ok' hd' hy'
      generalize roomB ((ladd l rs).1) an = rb at hRoomA hRoomB
      refine W.mixN 8 ([true, false] ++ List.replicate 7 true ++ [false] ++ List.replicate 10 true ++ [false] ++ List.replicate 3 true ++ [false] ++ List.replicate 5 true ++ [false, true, true]) [[(b, .cells (List.toArray (Enc.enc (⟨1, ap, al, ac, an⟩ : Av))) 56 (0, 0))], VBk w2 e (lastN ((ladd l rs).1)) torn] Tryz.mix (by kernel_rfl) ?_
      repeat' (first | refine go ?_ | refine mv ?_ | refine mU ?_ | refine mA ?_ | fail)
      refine WX.callQ rfl (torn_ct w d (lastN ((ladd l rs).1)) torn) rfl ?_
      repeat' (first | refine go ?_ | refine mv ?_ | (refine I.ld ?_; refine ld rfl ?_) | (refine I.gd ?_; first | refine gy ?_ | refine gF ?_) | (refine I.fa ?_; refine fa ?_) | (refine I.nc ?_; refine nc ?_) | (refine I.bin ?_; refine cm rfl rfl ?_) | refine mU ?_ | refine mA ?_ | fail)
      refine WX.callQ rfl (segment_ct w d (lastN ((ladd l rs).1)) torn) rfl ?_
      repeat' (first | refine go ?_ | refine mv ?_ | (refine I.ld ?_; refine ld rfl ?_) | (refine I.gd ?_; first | refine gy ?_ | refine gF ?_) | (refine I.fa ?_; refine fa ?_) | (refine I.nc ?_; refine nc ?_) | (refine I.bin ?_; refine cm rfl rfl ?_) | (refine I.pk ?_; refine pF ?_) | refine mU ?_ | refine mA ?_ | fail)
      refine WX.callQ rfl hRoomA rfl ?_
      repeat' (first | refine go ?_ | refine mv ?_ | (refine I.ld ?_; refine ld rfl ?_) | (refine I.gd ?_; refine gy ?_) | (refine I.fa ?_; refine fa ?_) | refine mU ?_ | refine mA ?_ | fail)
      refine WX.callQ rfl hRoomB rfl ?_
      cases rb with
      | true =>
        repeat' (first | refine go ?_ | refine mv ?_ | (refine I.gd ?_; refine gy ?_) | (refine I.pk ?_; refine pF ?_) | refine mU ?_ | refine mA ?_ | (refine I.bin ?_; refine WX.neqB rfl rfl rfl ?_) | fail)
        refine WX.callQ rfl hDisks rfl ?_
        repeat' (first | refine go ?_ | refine mv ?_ | refine asg ?_ | (refine I.gd ?_; refine gy ?_) | (refine I.bin ?_; refine ad ?_) | (refine I.pk ?_; refine pF ?_) | (refine I.cond ?_; refine cF ?_) | refine mN ?_ | refine WX.nil ?_ | refine mU ?_ | (refine I.un ?_; refine nt ?_) | fail)
        exact D.round (i + 1, (ladd l rs).1, w, w2, h', y', torn) ⟨by simp only []; omega, ok', hd', (hy').mono (by simp only []; rw [htk]; push_cast; omega)⟩ (by simp only []; omega) (by repeat (first | exact Fsub.nil | refine Fsub.cons rfl ?_)) (Hsub.of_picks inferInstance)
      | false =>
        repeat' (first | refine go ?_ | refine mv ?_ | (refine I.gd ?_; refine gy ?_) | (refine I.pk ?_; refine pF ?_) | refine mU ?_ | refine mA ?_ | (refine I.bin ?_; refine WX.neqB rfl rfl rfl ?_) | fail)
        refine WX.callQ rfl hDisks rfl ?_
        repeat' (first | refine go ?_ | refine mv ?_ | refine asg ?_ | (refine I.gd ?_; refine gy ?_) | (refine I.bin ?_; refine ad ?_) | (refine I.pk ?_; refine pF ?_) | (refine I.cond ?_; refine cF ?_) | refine mN ?_ | refine WX.nil ?_ | refine mU ?_ | (refine I.un ?_; refine nt ?_) | fail)
        exact D.round (i + 1, (ladd l rs).1, w, w2, h', y', torn) ⟨by simp only []; omega, ok', hd', (hy').mono (by simp only []; rw [htk]; push_cast; omega)⟩ (by simp only []; omega) (by repeat (first | exact Fsub.nil | refine Fsub.cons rfl ?_)) (Hsub.of_picks inferInstance)
    · by_cases hk2 : ak = 2
      · subst hk2
        repeat' (first | refine go ?_ | refine mv ?_ | (refine I.ld ?_; refine lF rfl (by assumption) ?_) | (refine I.bin ?_; refine cm rfl rfl ?_) | (refine I.cond ?_; refine cP ?_) | (refine I.bi ?_; refine ln rfl (by assumption) ?_) | (refine I.ix ?_; refine ix rfl rfl ?_) | fail)
        refine WX.alloc rfl (fun b => ?_)
        repeat' (first | refine go ?_ | refine mv ?_ | (refine I.ld ?_; refine ld rfl ?_) | refine asg ?_ | (refine I.fa ?_; refine fa ?_) | (refine I.bin ?_; refine cm rfl rfl ?_) | (refine I.cond ?_; first | refine cT ?_ | refine cF ?_) | (refine I.st ?_; refine sG rfl rfl ?_) | fail)
        refine WX.call rfl (vsync_ct ok hy (w := w2) (seg := lastN l) (torn := torn)) rfl ?_
        rintro _ _ ⟨y', rfl, hyy⟩
        simp only [List.cons_append, List.nil_append]
        repeat' (first | refine go ?_ | refine mv ?_ | fail)
        refine WX.call rfl (sync_ct ok hd (w := w) (seg := lastN l) (torn := torn)) rfl ?_
        rintro _ _ ⟨h', rfl, rfl, hdy⟩
        simp only [List.cons_append, List.nil_append]
        have ok' := ok.sync
        rw [← lastN_sync l]
        repeat' (first | refine go ?_ | (refine I.bin ?_; refine cm rfl rfl ?_) | (refine I.cond ?_; refine cF ?_) | fail)
        have hRoomA := room_ct ok' hdy (w := w) (seg := lastN ((lsync l))) (torn := torn) an
        have hRoomB := vroom_ct ok' hyy (w := w2) (seg := lastN ((lsync l))) (torn := torn) an
        have hDisks := disks_ct ok' hdy hyy
        generalize roomB ((lsync l)) an = rb at hRoomA hRoomB
        refine W.mixN 8 ([true, false] ++ List.replicate 7 true ++ [false] ++ List.replicate 10 true ++ [false] ++ List.replicate 3 true ++ [false] ++ List.replicate 5 true ++ [false, true, true]) [[(b, .cells (List.toArray (Enc.enc (⟨2, ap, al, ac, an⟩ : Av))) 56 (0, 0))], VBk w2 e (lastN ((lsync l))) torn] Tryz.mix (by kernel_rfl) ?_
        repeat' (first | refine go ?_ | refine mv ?_ | refine mU ?_ | refine mA ?_ | fail)
        refine WX.callQ rfl (torn_ct w d (lastN ((lsync l))) torn) rfl ?_
        repeat' (first | refine go ?_ | refine mv ?_ | (refine I.ld ?_; refine ld rfl ?_) | (refine I.gd ?_; first | refine gy ?_ | refine gF ?_) | (refine I.fa ?_; refine fa ?_) | (refine I.nc ?_; refine nc ?_) | (refine I.bin ?_; refine cm rfl rfl ?_) | refine mU ?_ | refine mA ?_ | fail)
        refine WX.callQ rfl (segment_ct w d (lastN ((lsync l))) torn) rfl ?_
        repeat' (first | refine go ?_ | refine mv ?_ | (refine I.ld ?_; refine ld rfl ?_) | (refine I.gd ?_; first | refine gy ?_ | refine gF ?_) | (refine I.fa ?_; refine fa ?_) | (refine I.nc ?_; refine nc ?_) | (refine I.bin ?_; refine cm rfl rfl ?_) | (refine I.pk ?_; refine pF ?_) | refine mU ?_ | refine mA ?_ | fail)
        refine WX.callQ rfl hRoomA rfl ?_
        repeat' (first | refine go ?_ | refine mv ?_ | (refine I.ld ?_; refine ld rfl ?_) | (refine I.gd ?_; refine gy ?_) | (refine I.fa ?_; refine fa ?_) | refine mU ?_ | refine mA ?_ | fail)
        refine WX.callQ rfl hRoomB rfl ?_
        cases rb with
        | true =>
          repeat' (first | refine go ?_ | refine mv ?_ | (refine I.gd ?_; refine gy ?_) | (refine I.pk ?_; refine pF ?_) | refine mU ?_ | refine mA ?_ | (refine I.bin ?_; refine WX.neqB rfl rfl rfl ?_) | fail)
          refine WX.callQ rfl hDisks rfl ?_
          repeat' (first | refine go ?_ | refine mv ?_ | refine asg ?_ | (refine I.gd ?_; refine gy ?_) | (refine I.bin ?_; refine ad ?_) | (refine I.pk ?_; refine pF ?_) | (refine I.cond ?_; refine cF ?_) | refine mN ?_ | refine WX.nil ?_ | refine mU ?_ | (refine I.un ?_; refine nt ?_) | fail)
          exact D.round (i + 1, (lsync l), w, w2, h', y', torn) ⟨by simp only []; omega, ok', hdy, (hyy).mono (by simp only []; rw [htk]; push_cast; omega)⟩ (by simp only []; omega) (by repeat (first | exact Fsub.nil | refine Fsub.cons rfl ?_)) (Hsub.of_picks inferInstance)
        | false =>
          repeat' (first | refine go ?_ | refine mv ?_ | (refine I.gd ?_; refine gy ?_) | (refine I.pk ?_; refine pF ?_) | refine mU ?_ | refine mA ?_ | (refine I.bin ?_; refine WX.neqB rfl rfl rfl ?_) | fail)
          refine WX.callQ rfl hDisks rfl ?_
          repeat' (first | refine go ?_ | refine mv ?_ | refine asg ?_ | (refine I.gd ?_; refine gy ?_) | (refine I.bin ?_; refine ad ?_) | (refine I.pk ?_; refine pF ?_) | (refine I.cond ?_; refine cF ?_) | refine mN ?_ | refine WX.nil ?_ | refine mU ?_ | (refine I.un ?_; refine nt ?_) | fail)
          exact D.round (i + 1, (lsync l), w, w2, h', y', torn) ⟨by simp only []; omega, ok', hdy, (hyy).mono (by simp only []; rw [htk]; push_cast; omega)⟩ (by simp only []; omega) (by repeat (first | exact Fsub.nil | refine Fsub.cons rfl ?_)) (Hsub.of_picks inferInstance)
      · by_cases hk3 : ak = 3
        · subst hk3
          repeat' (first | refine go ?_ | refine mv ?_ | (refine I.ld ?_; refine lF rfl (by assumption) ?_) | (refine I.bin ?_; refine cm rfl rfl ?_) | (refine I.cond ?_; refine cP ?_) | (refine I.bi ?_; refine ln rfl (by assumption) ?_) | (refine I.ix ?_; refine ix rfl rfl ?_) | fail)
          refine WX.alloc rfl (fun b => ?_)
          repeat' (first | refine go ?_ | refine mv ?_ | (refine I.ld ?_; refine ld rfl ?_) | refine asg ?_ | (refine I.fa ?_; refine fa ?_) | (refine I.bin ?_; refine cm rfl rfl ?_) | (refine I.cond ?_; first | refine cT ?_ | refine cF ?_) | (refine I.st ?_; refine sG rfl rfl ?_) | fail)
          refine WX.call rfl (cut_ct ok hd (w := w) (torn := torn)) rfl ?_
          rintro _ _ ⟨h', rfl, rfl, hdy⟩
          simp only [List.cons_append, List.nil_append]
          repeat' (first | refine mv ?_ | fail)
          refine WX.call rfl (vcut_ct ok hy (by omega) (w := w2) (torn := torn)) rfl ?_
          rintro _ _ ⟨y', rfl, rfl, hyy⟩
          simp only [List.cons_append, List.nil_append]
          have ok' := ok.cut
          repeat' (first | refine go ?_ | (refine I.bin ?_; refine cm rfl rfl ?_) | (refine I.cond ?_; refine cN ?_) | fail)
          have hRoomA := room_ct ok' hdy (w := w) (seg := lastN ((lcut l).1)) (torn := torn) an
          have hRoomB := vroom_ct ok' hyy (w := w2) (seg := lastN ((lcut l).1)) (torn := torn) an
          have hDisks := disks_ct ok' hdy hyy
          generalize roomB ((lcut l).1) an = rb at hRoomA hRoomB
          refine W.mixN 8 ([true, false] ++ List.replicate 7 true ++ [false] ++ List.replicate 10 true ++ [false] ++ List.replicate 3 true ++ [false] ++ List.replicate 5 true ++ [false, true, true]) [[(b, .cells (List.toArray (Enc.enc (⟨3, ap, al, ac, an⟩ : Av))) 56 (0, 0))], VBk w2 e (lastN ((lcut l).1)) torn] Tryz.mix (by kernel_rfl) ?_
          repeat' (first | refine go ?_ | refine mv ?_ | refine mU ?_ | refine mA ?_ | fail)
          refine WX.callQ rfl (torn_ct w d (lastN ((lcut l).1)) torn) rfl ?_
          repeat' (first | refine go ?_ | refine mv ?_ | (refine I.ld ?_; refine ld rfl ?_) | (refine I.gd ?_; first | refine gy ?_ | refine gF ?_) | (refine I.fa ?_; refine fa ?_) | (refine I.nc ?_; refine nc ?_) | (refine I.bin ?_; refine cm rfl rfl ?_) | refine mU ?_ | refine mA ?_ | fail)
          refine WX.callQ rfl (segment_ct w d (lastN ((lcut l).1)) torn) rfl ?_
          repeat' (first | refine go ?_ | refine mv ?_ | (refine I.ld ?_; refine ld rfl ?_) | (refine I.gd ?_; first | refine gy ?_ | refine gF ?_) | (refine I.fa ?_; refine fa ?_) | (refine I.nc ?_; refine nc ?_) | (refine I.bin ?_; refine cm rfl rfl ?_) | (refine I.pk ?_; refine pF ?_) | refine mU ?_ | refine mA ?_ | fail)
          refine WX.callQ rfl hRoomA rfl ?_
          repeat' (first | refine go ?_ | refine mv ?_ | (refine I.ld ?_; refine ld rfl ?_) | (refine I.gd ?_; refine gy ?_) | (refine I.fa ?_; refine fa ?_) | refine mU ?_ | refine mA ?_ | fail)
          refine WX.callQ rfl hRoomB rfl ?_
          cases rb with
          | true =>
            repeat' (first | refine go ?_ | refine mv ?_ | (refine I.gd ?_; refine gy ?_) | (refine I.pk ?_; refine pF ?_) | refine mU ?_ | refine mA ?_ | (refine I.bin ?_; refine WX.neqB rfl rfl rfl ?_) | fail)
            refine WX.callQ rfl hDisks rfl ?_
            repeat' (first | refine go ?_ | refine mv ?_ | refine asg ?_ | (refine I.gd ?_; refine gy ?_) | (refine I.bin ?_; refine ad ?_) | (refine I.pk ?_; refine pF ?_) | (refine I.cond ?_; refine cF ?_) | refine mN ?_ | refine WX.nil ?_ | refine mU ?_ | (refine I.un ?_; refine nt ?_) | fail)
            exact D.round (i + 1, (lcut l).1, w, w2, h', y', torn) ⟨by simp only []; omega, ok', hdy, (hyy).mono (by simp only []; rw [htk]; push_cast; omega)⟩ (by simp only []; omega) (by repeat (first | exact Fsub.nil | refine Fsub.cons rfl ?_)) (Hsub.of_picks inferInstance)
          | false =>
            repeat' (first | refine go ?_ | refine mv ?_ | (refine I.gd ?_; refine gy ?_) | (refine I.pk ?_; refine pF ?_) | refine mU ?_ | refine mA ?_ | (refine I.bin ?_; refine WX.neqB rfl rfl rfl ?_) | fail)
            refine WX.callQ rfl hDisks rfl ?_
            repeat' (first | refine go ?_ | refine mv ?_ | refine asg ?_ | (refine I.gd ?_; refine gy ?_) | (refine I.bin ?_; refine ad ?_) | (refine I.pk ?_; refine pF ?_) | (refine I.cond ?_; refine cF ?_) | refine mN ?_ | refine WX.nil ?_ | refine mU ?_ | (refine I.un ?_; refine nt ?_) | fail)
            exact D.round (i + 1, (lcut l).1, w, w2, h', y', torn) ⟨by simp only []; omega, ok', hdy, (hyy).mono (by simp only []; rw [htk]; push_cast; omega)⟩ (by simp only []; omega) (by repeat (first | exact Fsub.nil | refine Fsub.cons rfl ?_)) (Hsub.of_picks inferInstance)
        · by_cases hk4 : ak = 4
          · subst hk4
            have hyR := hy
            obtain ⟨qs, t, lr, ht, hyq⟩ := hyR
            have qok := lr.q ok.toLUp
            have hcr := crashD_ct ok hd an1 an2
            obtain ⟨l', torn', ok', ho1, ho2⟩ := both_open ok an.toNat
            repeat' (first | refine go ?_ | refine mv ?_ | (refine I.ld ?_; refine lF rfl (by assumption) ?_) | (refine I.bin ?_; refine cm rfl rfl ?_) | (refine I.cond ?_; refine cP ?_) | (refine I.bi ?_; refine ln rfl (by assumption) ?_) | (refine I.ix ?_; refine ix rfl rfl ?_) | fail)
            refine WX.alloc rfl (fun b => ?_)
            repeat' (first | refine go ?_ | (refine I.ld ?_; refine ld rfl ?_) | refine asg ?_ | (refine I.fa ?_; refine fa ?_) | (refine I.bin ?_; refine cm rfl rfl ?_) | (refine I.cond ?_; first | refine cT ?_ | refine cF ?_) | (refine I.st ?_; refine sG rfl rfl ?_) | fail)
            refine W.mix (List.replicate 7 true ++ [false] ++ List.replicate 3 true ++ [false, true, true]) [[(b, .cells (List.toArray (Enc.enc (⟨4, ap, al, ac, an⟩ : Av))) 56 (0, 0))]] Tryz.mix (by kernel_rfl) ?_
            repeat' (first | refine go ?_ | refine mv ?_ | (refine I.ld ?_; refine ld rfl ?_) | (refine I.gd ?_; refine gy ?_) | (refine I.fa ?_; refine fa ?_) | (refine I.bin ?_; refine cm rfl rfl ?_) | refine mU ?_ | refine mA ?_ | fail)
            refine WX.call rfl hcr rfl ?_
            rintro _ _ ⟨h2, rfl, rfl, hd2⟩
            simp only [List.cons_append, List.nil_append]
            repeat' (first | refine go ?_ | refine mv ?_ | (refine I.ld ?_; refine ld rfl ?_) | (refine I.gd ?_; refine gy ?_) | (refine I.fa ?_; refine fa ?_) | refine mU ?_ | refine mA ?_ | fail)
            refine WX.call rfl (rcrash_ct qok lr.t0 (by omega) (fun x hx => (lr.pos x hx).2) hyq an1 an2) rfl ?_
            rintro _ _ ⟨last, y2, rfl, rfl, hy2, hla⟩
            rw [crash_eq (k := an.toNat) lr.m lr.inc (last_cnt hla lr.inc lr.pos)] at hy2
            rw [lost_eq lr hla]
            simp only [List.cons_append, List.nil_append]
            repeat' (first | refine go ?_ | refine mv ?_ | (refine I.gd ?_; refine gy ?_) | (refine I.bin ?_; refine cm rfl rfl ?_) | (refine I.pk ?_; refine pT ?_) | (refine I.cond ?_; refine cN ?_) | refine mN ?_ | refine WX.nil ?_ | refine mU ?_ | fail)
            refine WX.call rfl (ho1 hd2) rfl ?_
            rintro _ _ ⟨w3, u3, h3, ho3, rfl, rfl, hd3, hs3⟩
            simp only [List.cons_append, List.nil_append]
            repeat' (first | refine go ?_ | refine mv ?_ | refine asg ?_ | refine ex ?_ | fail)
            refine WX.call rfl (ho2 lr.t0 ht hy2) rfl ?_
            rintro _ _ ⟨w4, u4, y4, ho4, rfl, rfl, hy4, hs4⟩
            have hru := recs_count ok'.good
            have huu := ok'.used
            have hou := outF_len (recs l')
            have hsm := same_ct hs3.rs hs4.rs (by omega) (by omega)
            rw [decide_eq_true rfl] at hsm
            simp only [List.cons_append, List.nil_append]
            repeat' (first | refine go ?_ | refine mv ?_ | refine asg ?_ | (refine I.gd ?_; refine gy ?_) | (refine I.bin ?_; refine np rfl rfl ?_) | refine ex ?_ | fail)
            refine WX.callQ rfl hsm rfl ?_
            repeat' (first | refine go ?_ | (refine I.gd ?_; refine gy ?_) | (refine I.pk ?_; refine pF ?_) | (refine I.cond ?_; refine cF ?_) | (refine I.un ?_; refine nt ?_) | fail)
            have hRoomA := room_ct ok' hd3 (w := w3) (seg := lastN (l')) (torn := torn') an
            have hRoomB := vroom_ct ok' hy4 (w := w4) (seg := lastN (l')) (torn := torn') an
            have hDisks := disks_ct ok' hd3 hy4
            generalize roomB (l') an = rb at hRoomA hRoomB
            refine W.mixN 8 ([true, false] ++ List.replicate 7 true ++ [false] ++ List.replicate 10 true ++ [false] ++ List.replicate 3 true ++ [false] ++ List.replicate 5 true ++ [false, true, true]) [[(b, .cells (List.toArray (Enc.enc (⟨4, ap, al, ac, an⟩ : Av))) 56 (0, 0))], VBk w4 e (lastN (l')) torn'] Tryz.mix (by kernel_rfl) ?_
            repeat' (first | refine go ?_ | refine mv ?_ | refine mU ?_ | refine mA ?_ | fail)
            refine WX.callQ rfl (torn_ct w3 d (lastN (l')) torn') rfl ?_
            repeat' (first | refine go ?_ | refine mv ?_ | (refine I.ld ?_; refine ld rfl ?_) | (refine I.gd ?_; first | refine gy ?_ | refine gF ?_) | (refine I.fa ?_; refine fa ?_) | (refine I.nc ?_; refine nc ?_) | (refine I.bin ?_; refine cm rfl rfl ?_) | refine mU ?_ | refine mA ?_ | fail)
            refine WX.callQ rfl (segment_ct w3 d (lastN (l')) torn') rfl ?_
            repeat' (first | refine go ?_ | refine mv ?_ | (refine I.ld ?_; refine ld rfl ?_) | (refine I.gd ?_; first | refine gy ?_ | refine gF ?_) | (refine I.fa ?_; refine fa ?_) | (refine I.nc ?_; refine nc ?_) | (refine I.bin ?_; refine cm rfl rfl ?_) | (refine I.pk ?_; refine pF ?_) | refine mU ?_ | refine mA ?_ | fail)
            refine WX.callQ rfl hRoomA rfl ?_
            repeat' (first | refine go ?_ | refine mv ?_ | (refine I.ld ?_; refine ld rfl ?_) | (refine I.gd ?_; refine gy ?_) | (refine I.fa ?_; refine fa ?_) | refine mU ?_ | refine mA ?_ | fail)
            refine WX.callQ rfl hRoomB rfl ?_
            cases rb with
            | true =>
              repeat' (first | refine go ?_ | refine mv ?_ | (refine I.gd ?_; refine gy ?_) | (refine I.pk ?_; refine pF ?_) | refine mU ?_ | refine mA ?_ | (refine I.bin ?_; refine WX.neqB rfl rfl rfl ?_) | fail)
              refine WX.callQ rfl hDisks rfl ?_
              repeat' (first | refine go ?_ | refine mv ?_ | refine asg ?_ | (refine I.gd ?_; refine gy ?_) | (refine I.bin ?_; refine ad ?_) | (refine I.pk ?_; refine pF ?_) | (refine I.cond ?_; refine cF ?_) | refine mN ?_ | refine WX.nil ?_ | refine mU ?_ | (refine I.un ?_; refine nt ?_) | fail)
              exact D.round (i + 1, l', w3, w4, h3, y4, torn') ⟨by simp only []; omega, ok', hd3, (hy4).mono (by simp only []; rw [htk]; push_cast; omega)⟩ (by simp only []; omega) (by repeat (first | exact Fsub.nil | refine Fsub.cons rfl ?_)) (Hsub.of_picks inferInstance)
            | false =>
              repeat' (first | refine go ?_ | refine mv ?_ | (refine I.gd ?_; refine gy ?_) | (refine I.pk ?_; refine pF ?_) | refine mU ?_ | refine mA ?_ | (refine I.bin ?_; refine WX.neqB rfl rfl rfl ?_) | fail)
              refine WX.callQ rfl hDisks rfl ?_
              repeat' (first | refine go ?_ | refine mv ?_ | refine asg ?_ | (refine I.gd ?_; refine gy ?_) | (refine I.bin ?_; refine ad ?_) | (refine I.pk ?_; refine pF ?_) | (refine I.cond ?_; refine cF ?_) | refine mN ?_ | refine WX.nil ?_ | refine mU ?_ | (refine I.un ?_; refine nt ?_) | fail)
              exact D.round (i + 1, l', w3, w4, h3, y4, torn') ⟨by simp only []; omega, ok', hd3, (hy4).mono (by simp only []; rw [htk]; push_cast; omega)⟩ (by simp only []; omega) (by repeat (first | exact Fsub.nil | refine Fsub.cons rfl ?_)) (Hsub.of_picks inferInstance)
          · by_cases hk5 : ak = 5
            · subst hk5
              repeat' (first | refine go ?_ | refine mv ?_ | (refine I.ld ?_; refine lF rfl (by assumption) ?_) | (refine I.bin ?_; refine cm rfl rfl ?_) | (refine I.cond ?_; refine cP ?_) | (refine I.bi ?_; refine ln rfl (by assumption) ?_) | (refine I.ix ?_; refine ix rfl rfl ?_) | fail)
              refine WX.alloc rfl (fun b => ?_)
              repeat' (first | refine go ?_ | (refine I.ld ?_; refine ld rfl ?_) | refine asg ?_ | (refine I.fa ?_; refine fa ?_) | (refine I.bin ?_; refine cm rfl rfl ?_) | (refine I.cond ?_; first | refine cT ?_ | refine cF ?_) | (refine I.st ?_; refine sG rfl rfl ?_) | fail)
              refine W.mix (List.replicate 7 true ++ [false] ++ List.replicate 3 true ++ [false, true, true]) [[(b, .cells (List.toArray (Enc.enc (⟨5, ap, al, ac, an⟩ : Av))) 56 (0, 0))]] Tryz.mix (by kernel_rfl) ?_
              repeat' (first | refine go ?_ | refine mv ?_ | (refine I.ld ?_; refine ld rfl ?_) | (refine I.gd ?_; refine gn ?_) | (refine I.fa ?_; refine fa ?_) | (refine I.bin ?_; refine cm rfl rfl ?_) | (refine I.pk ?_; refine pF ?_) | (refine I.cond ?_; refine cF ?_) | refine mN ?_ | refine WX.nil ?_ | refine mU ?_ | refine mA ?_ | fail)
              refine WX.call rfl (open_whole ok hd) rfl ?_
              rintro _ _ ⟨w3, u3, h3, ho3, rfl, rfl, hd3, hs3⟩
              simp only [List.cons_append, List.nil_append]
              repeat' (first | refine go ?_ | refine mv ?_ | refine asg ?_ | refine ex ?_ | fail)
              refine WX.call rfl (vopen_whole ok hy) rfl ?_
              rintro _ _ ⟨w4, u4, y4, ho4, rfl, rfl, hy4, hs4⟩
              have hru := recs_count ok.good
              have huu := ok.used
              have hou := outF_len (recs l)
              have hsm := same_ct hs3.rs hs4.rs (by omega) (by omega)
              rw [decide_eq_true rfl] at hsm
              simp only [List.cons_append, List.nil_append]
              repeat' (first | refine go ?_ | refine mv ?_ | refine asg ?_ | (refine I.gd ?_; refine gy ?_) | (refine I.bin ?_; refine np rfl rfl ?_) | refine ex ?_ | fail)
              refine WX.callQ rfl hsm rfl ?_
              repeat' (first | refine go ?_ | (refine I.gd ?_; refine gy ?_) | (refine I.pk ?_; refine pF ?_) | (refine I.cond ?_; refine cF ?_) | (refine I.un ?_; refine nt ?_) | fail)
              have hRoomA := room_ct ok hd3 (w := w3) (seg := lastN (l)) (torn := (0 : Int)) an
              have hRoomB := vroom_ct ok hy4 (w := w4) (seg := lastN (l)) (torn := (0 : Int)) an
              have hDisks := disks_ct ok hd3 hy4
              generalize roomB (l) an = rb at hRoomA hRoomB
              refine W.mixN 8 ([true, false] ++ List.replicate 7 true ++ [false] ++ List.replicate 10 true ++ [false] ++ List.replicate 3 true ++ [false] ++ List.replicate 5 true ++ [false, true, true]) [[(b, .cells (List.toArray (Enc.enc (⟨5, ap, al, ac, an⟩ : Av))) 56 (0, 0))], VBk w4 e (lastN (l)) (0 : Int)] Tryz.mix (by kernel_rfl) ?_
              repeat' (first | refine go ?_ | refine mv ?_ | refine mU ?_ | refine mA ?_ | fail)
              refine WX.callQ rfl (torn_ct w3 d (lastN (l)) (0 : Int)) rfl ?_
              repeat' (first | refine go ?_ | refine mv ?_ | (refine I.ld ?_; refine ld rfl ?_) | (refine I.gd ?_; refine gy ?_) | (refine I.fa ?_; refine fa ?_) | (refine I.nc ?_; refine nc ?_) | (refine I.bin ?_; refine cm rfl rfl ?_) | refine mU ?_ | refine mA ?_ | fail)
              refine WX.callQ rfl (segment_ct w3 d (lastN (l)) (0 : Int)) rfl ?_
              repeat' (first | refine go ?_ | refine mv ?_ | (refine I.ld ?_; refine ld rfl ?_) | (refine I.gd ?_; first | refine gy ?_ | refine gF ?_) | (refine I.fa ?_; refine fa ?_) | (refine I.nc ?_; refine nc ?_) | (refine I.bin ?_; refine cm rfl rfl ?_) | (refine I.pk ?_; refine pF ?_) | refine mU ?_ | refine mA ?_ | fail)
              refine WX.callQ rfl hRoomA rfl ?_
              repeat' (first | refine go ?_ | refine mv ?_ | (refine I.ld ?_; refine ld rfl ?_) | (refine I.gd ?_; refine gy ?_) | (refine I.fa ?_; refine fa ?_) | refine mU ?_ | refine mA ?_ | fail)
              refine WX.callQ rfl hRoomB rfl ?_
              cases rb with
              | true =>
                repeat' (first | refine go ?_ | refine mv ?_ | (refine I.gd ?_; refine gy ?_) | (refine I.pk ?_; refine pF ?_) | refine mU ?_ | refine mA ?_ | (refine I.bin ?_; refine WX.neqB rfl rfl rfl ?_) | fail)
                refine WX.callQ rfl hDisks rfl ?_
                repeat' (first | refine go ?_ | refine mv ?_ | refine asg ?_ | (refine I.gd ?_; refine gy ?_) | (refine I.bin ?_; refine ad ?_) | (refine I.pk ?_; refine pF ?_) | (refine I.cond ?_; refine cF ?_) | refine mN ?_ | refine WX.nil ?_ | refine mU ?_ | (refine I.un ?_; refine nt ?_) | fail)
                exact D.round (i + 1, l, w3, w4, h3, y4, (0 : Int)) ⟨by simp only []; omega, ok, hd3, (hy4).mono (by simp only []; rw [htk]; push_cast; omega)⟩ (by simp only []; omega) (by repeat (first | exact Fsub.nil | refine Fsub.cons rfl ?_)) (Hsub.of_picks inferInstance)
              | false =>
                repeat' (first | refine go ?_ | refine mv ?_ | (refine I.gd ?_; refine gy ?_) | (refine I.pk ?_; refine pF ?_) | refine mU ?_ | refine mA ?_ | (refine I.bin ?_; refine WX.neqB rfl rfl rfl ?_) | fail)
                refine WX.callQ rfl hDisks rfl ?_
                repeat' (first | refine go ?_ | refine mv ?_ | refine asg ?_ | (refine I.gd ?_; refine gy ?_) | (refine I.bin ?_; refine ad ?_) | (refine I.pk ?_; refine pF ?_) | (refine I.cond ?_; refine cF ?_) | refine mN ?_ | refine WX.nil ?_ | refine mU ?_ | (refine I.un ?_; refine nt ?_) | fail)
                exact D.round (i + 1, l, w3, w4, h3, y4, (0 : Int)) ⟨by simp only []; omega, ok, hd3, (hy4).mono (by simp only []; rw [htk]; push_cast; omega)⟩ (by simp only []; omega) (by repeat (first | exact Fsub.nil | refine Fsub.cons rfl ?_)) (Hsub.of_picks inferInstance)
            · repeat' (first | refine go ?_ | refine mv ?_ | (refine I.ld ?_; refine lF rfl (by assumption) ?_) | (refine I.bin ?_; refine cm rfl rfl ?_) | (refine I.cond ?_; refine cP ?_) | (refine I.bi ?_; refine ln rfl (by assumption) ?_) | (refine I.ix ?_; refine ix rfl rfl ?_) | fail)
              refine WX.alloc rfl (fun b => ?_)
              repeat' (first | refine go ?_ | (refine I.ld ?_; refine ld rfl ?_) | refine asg ?_ | (refine I.fa ?_; refine fa ?_) | (refine I.bin ?_; refine cm rfl rfl ?_) | (refine I.cond ?_; refine cN ?_) | (refine I.st ?_; refine sG rfl rfl ?_) | fail)
              have hRoomA := room_ct ok hd (w := w) (seg := lastN (l)) (torn := torn) an
              have hRoomB := vroom_ct ok hy (w := w2) (seg := lastN (l)) (torn := torn) an
              have hDisks := disks_ct ok hd hy
              generalize roomB (l) an = rb at hRoomA hRoomB
              refine W.mixN 8 ([true, false] ++ List.replicate 7 true ++ [false] ++ List.replicate 10 true ++ [false] ++ List.replicate 3 true ++ [false] ++ List.replicate 5 true ++ [false, true, true]) [[(b, .cells (List.toArray (Enc.enc (⟨ak, ap, al, ac, an⟩ : Av))) 56 (0, 0))], VBk w2 e (lastN (l)) torn] Tryz.mix (by kernel_rfl) ?_
              repeat' (first | refine go ?_ | refine mv ?_ | refine mU ?_ | refine mA ?_ | fail)
              refine WX.callQ rfl (torn_ct w d (lastN (l)) torn) rfl ?_
              repeat' (first | refine go ?_ | refine mv ?_ | (refine I.ld ?_; refine ld rfl ?_) | (refine I.gd ?_; first | refine gy ?_ | refine gF ?_) | (refine I.fa ?_; refine fa ?_) | (refine I.nc ?_; refine nc ?_) | (refine I.bin ?_; refine cm rfl rfl ?_) | refine mU ?_ | refine mA ?_ | fail)
              refine WX.callQ rfl (segment_ct w d (lastN (l)) torn) rfl ?_
              repeat' (first | refine go ?_ | refine mv ?_ | (refine I.ld ?_; refine ld rfl ?_) | (refine I.gd ?_; first | refine gy ?_ | refine gF ?_) | (refine I.fa ?_; refine fa ?_) | (refine I.nc ?_; refine nc ?_) | (refine I.bin ?_; refine cm rfl rfl ?_) | (refine I.pk ?_; refine pF ?_) | refine mU ?_ | refine mA ?_ | fail)
              refine WX.callQ rfl hRoomA rfl ?_
              repeat' (first | refine go ?_ | refine mv ?_ | (refine I.ld ?_; refine ld rfl ?_) | (refine I.gd ?_; refine gy ?_) | (refine I.fa ?_; refine fa ?_) | refine mU ?_ | refine mA ?_ | fail)
              refine WX.callQ rfl hRoomB rfl ?_
              cases rb with
              | true =>
                repeat' (first | refine go ?_ | refine mv ?_ | (refine I.gd ?_; refine gy ?_) | (refine I.pk ?_; refine pF ?_) | refine mU ?_ | refine mA ?_ | (refine I.bin ?_; refine WX.neqB rfl rfl rfl ?_) | fail)
                refine WX.callQ rfl hDisks rfl ?_
                repeat' (first | refine go ?_ | refine mv ?_ | refine asg ?_ | (refine I.gd ?_; refine gy ?_) | (refine I.bin ?_; refine ad ?_) | (refine I.pk ?_; refine pF ?_) | (refine I.cond ?_; refine cF ?_) | refine mN ?_ | refine WX.nil ?_ | refine mU ?_ | (refine I.un ?_; refine nt ?_) | fail)
                exact D.round (i + 1, l, w, w2, h, y, torn) ⟨by simp only []; omega, ok, hd, (hy).mono (by simp only []; rw [htk]; push_cast; omega)⟩ (by simp only []; omega) (by repeat (first | exact Fsub.nil | refine Fsub.cons rfl ?_)) (Hsub.of_picks inferInstance)
              | false =>
                repeat' (first | refine go ?_ | refine mv ?_ | (refine I.gd ?_; refine gy ?_) | (refine I.pk ?_; refine pF ?_) | refine mU ?_ | refine mA ?_ | (refine I.bin ?_; refine WX.neqB rfl rfl rfl ?_) | fail)
                refine WX.callQ rfl hDisks rfl ?_
                repeat' (first | refine go ?_ | refine mv ?_ | refine asg ?_ | (refine I.gd ?_; refine gy ?_) | (refine I.bin ?_; refine ad ?_) | (refine I.pk ?_; refine pF ?_) | (refine I.cond ?_; refine cF ?_) | refine mN ?_ | refine WX.nil ?_ | refine mU ?_ | (refine I.un ?_; refine nt ?_) | fail)
                exact D.round (i + 1, l, w, w2, h, y, torn) ⟨by simp only []; omega, ok, hd, (hy).mono (by simp only []; rw [htk]; push_cast; omega)⟩ (by simp only []; omega) (by repeat (first | exact Fsub.nil | refine Fsub.cons rfl ?_)) (Hsub.of_picks inferInstance)
  · obtain rfl : i = avs.length := by omega
    repeat' (first | refine go ?_ | refine mv ?_ | (refine I.bin ?_; refine cm rfl rfl ?_) | (refine I.cond ?_; refine cN ?_) | (refine I.bi ?_; refine ln rfl (by assumption) ?_) | fail)
    refine WX.callQ rfl (disks_ct ok hd hy) rfl ?_
    repeat' (first | refine go ?_ | refine asg ?_ | fail)
    exact D.fin1 [hx] _ rfl rfl ⟨rfl, rfl⟩
end Go.Proofs.YtihaajncebdioaaGreat
