/-
  Texts of one road, one behind the other.
-/
import Derived.Test.YtfcefidmdijjkaaGreatQMPg
import Derived.Test.YtfcefidmdijjkaaGreatQMPe
import Derived.Test.YtfcefidmdijjkaaGreatQMPf
import Derived.Test.YtfcefidmdijjkaaGreatQMPj
set_option linter.unusedVariables false
set_option linter.unusedSimpArgs false
namespace Go.Proofs.YtfcefidmdijjkaaGreat
open Go Go.Sl
def sinceC (c : Ch) (k : Int) : Int := match c.all.findIdx? (fun p => decide (p.nd = k)) with
 | none => 0
 | some j => (c.all.getD j Mem.z).sn
theorem iplc_plc {ms : List Mem} {k : Int} : iplc (ms.map (·.nd)) k = plc ms k := by unfold iplc plc; rw [List.findIdx?_map]; rfl
theorem since_ct {c : Ch} (ok : ChOk c) (k : Int) :
  Ct Tryz.prog 22 [.agg (List.toArray c.cfg.enc), .int .i64 k] [] (fun r H' => r = .int .i64 (sinceC c k) ∧ H' = []) := by
 have hall : c.all.length ≤ 4 := by have := ok.l4; unfold Ch.all; rw [List.length_append]; exact this
 refine Ct.mk' Tryz.func22 rfl rfl rfl (fun g R => ?_)
 try simp only [List.cons_append]
 simp only [List.nil_append]
 repeat' (first | refine go ?_ | (refine I.ld ?_; refine lA rfl ?_) | refine asg ?_ | refine bx rfl (fun _ => ?_) | fail)
 refine WX.call rfl (nodes_ct ok) rfl ?_
 rintro _ _ ⟨h1, hs1, rfl⟩
 simp only [List.cons_append, List.nil_append]
 repeat' (first | refine mv ?_ | fail)
 refine WX.callQ rfl (index_ct hs1.rs k (by rw [List.length_map]; omega)) rfl ?_
 rw [iplc_plc]
 cases hf : c.all.findIdx? (fun p => decide (p.nd = k)) with
 | none =>
  have e : plc c.all k = -1 := by unfold plc; rw [hf]
  have e2 : sinceC c k = 0 := by unfold sinceC; rw [hf]
  rw [e, e2]
  repeat' (first | refine go ?_ | refine mv ?_ | refine asg ?_ | (refine I.bin ?_; refine cm rfl rfl ?_) | (refine I.cond ?_; refine cT ?_) | fail)
  exact D.fin1 [] _ rfl rfl ⟨rfl, rfl⟩
 | some j =>
  have e : plc c.all k = (j : Int) := by unfold plc; rw [hf]
  obtain ⟨hj, _⟩ := List.findIdx?_eq_some_iff_getElem.1 hf
  obtain ⟨m, hm⟩ : ∃ m, c.all[j]? = some m := ⟨_, List.getElem?_eq_getElem hj⟩
  have e2 : sinceC c k = m.sn := by unfold sinceC; rw [hf]; simp only [List.getD_eq_getElem?_getD, hm, Option.getD_some]
  rw [e, e2]
  repeat' (first | refine go ?_ | refine mv ?_ | (refine I.ld ?_; refine lA rfl ?_) | refine asg ?_ | (refine I.bin ?_; refine cm rfl rfl ?_) | (refine I.cond ?_; refine cF ?_) | fail)
  refine WX.call rfl (members_ct ok) rfl ?_
  rintro _ _ ⟨h2, hs2, rfl⟩
  have hr2 := hs2.rs
  simp only [List.cons_append, List.nil_append]
  repeat' (first | refine go ?_ | refine mv ?_ | (refine I.ld ?_; refine lE rfl (by assumption) ?_) | refine asg ?_ | (refine I.fa ?_; refine fE rfl ?_) | (refine I.ix ?_; refine ix rfl rfl ?_) | fail)
  exact D.fin1 [] _ rfl rfl ⟨rfl, rfl⟩
def atL (xs : List Int) (i : Int) : Int := if i < 0 ∨ (xs.length : Int) ≤ i then -1 else xs.getD i.toNat 0
theorem at_ct {xs : List Int} {v : Value} {h : Hp} (hs : Rs xs v h) (i : Int) :
  Ct Tryz.prog 59 [v, .int .i64 i] [h] (fun r H' => r = .int .i64 (atL xs i) ∧ H' = [h]) := by
 refine Ct.mk' Tryz.func59 rfl rfl rfl (fun g R => ?_)
 try simp only [List.cons_append]
 simp only [List.nil_append]
 by_cases h0 : i < 0
 ·have e : atL xs i = -1 := by unfold atL; rw [if_pos (.inl h0)]
  rw [e]
  repeat' (first | refine go ?_ | refine mv ?_ | refine asg ?_ | (refine I.gd ?_; first | refine gn ?_ | refine gT ?_) | (refine I.bin ?_; refine cm rfl rfl ?_) | (refine I.pk ?_; refine pT ?_) | (refine I.cond ?_; refine cT ?_) | fail)
  exact D.fin1 [h] _ rfl rfl ⟨rfl, rfl⟩
 ·by_cases h1 : (xs.length : Int) ≤ i
  ·have e : atL xs i = -1 := by unfold atL; rw [if_pos (.inr h1)]
   rw [e]
   repeat' (first | refine go ?_ | refine mv ?_ | refine asg ?_ | (refine I.gd ?_; first | refine gy ?_ | refine gF ?_) | (refine I.bin ?_; refine cm rfl rfl ?_) | (refine I.pk ?_; refine pF ?_) | (refine I.cond ?_; refine cP ?_) | (refine I.bi ?_; refine ln rfl (by assumption) ?_) | fail)
   exact D.fin1 [h] _ rfl rfl ⟨rfl, rfl⟩
  ·obtain ⟨x, hx⟩ : ∃ x, xs[i.toNat]? = some x := ⟨_, List.getElem?_eq_getElem (by omega)⟩
   have e : atL xs i = x := by unfold atL; rw [if_neg (by omega), List.getD_eq_getElem?_getD, hx, Option.getD_some]
   rw [e]
   repeat' (first | refine go ?_ | refine mv ?_ | (refine I.ld ?_; refine lE rfl (by assumption) ?_) | refine asg ?_ | (refine I.gd ?_; first | refine gy ?_ | refine gF ?_) | (refine I.bin ?_; refine cm rfl rfl ?_) | (refine I.pk ?_; refine pF ?_) | (refine I.cond ?_; refine cN ?_) | (refine I.bi ?_; refine ln rfl (by assumption) ?_) | (refine I.ix ?_; refine iI rfl rfl ?_) | fail)
   exact D.fin1 [h] _ rfl rfl ⟨rfl, rfl⟩
def lastC (c : Ch) : Int := (c.ms.getD (c.ms.length - 1) Mem.z).nd
theorem lastC_is {c : Ch} (ok : ChOk c) : atL (c.all.map (·.nd)) (c.cfg.n - 1) = lastC c := by
 have h1 := ok.l1
 have hl : c.ms.length ≤ (c.all.map (·.nd)).length := by rw [List.length_map]; unfold Ch.all; rw [List.length_append]; omega
 have hn : c.cfg.n = (c.ms.length : Int) := rfl
 unfold atL
 rw [if_neg (by omega), hn, show ((c.ms.length : Int) - 1).toNat = c.ms.length - 1 by omega, List.getD_eq_getElem?_getD, List.getElem?_map]
 unfold Ch.all lastC
 rw [List.getElem?_append_left (by omega), List.getD_eq_getElem?_getD]
 obtain ⟨x, hx⟩ : ∃ x, c.ms[c.ms.length - 1]? = some x := ⟨_, List.getElem?_eq_getElem (by omega)⟩
 rw [hx]; rfl
theorem last_ct {c : Ch} (ok : ChOk c) :
  Ct Tryz.prog 23 [.agg (List.toArray c.cfg.enc)] [] (fun r H' => r = .int .i64 (lastC c) ∧ H' = []) := by
 have hn1 : 1 ≤ c.cfg.n := by have := ok.l1; show (1 : Int) ≤ (c.ms.length : Int); omega
 have hn4 : c.cfg.n ≤ 4 := by have := ok.l4; show (c.ms.length : Int) ≤ 4; omega
 have hli := lastC_is ok
 refine Ct.mk' Tryz.func23 rfl rfl rfl (fun g R => ?_)
 try simp only [List.cons_append]
 simp only [List.nil_append]
 repeat' (first | refine go ?_ | refine asg ?_ | refine bx rfl (fun _ => ?_) | fail)
 rename_i cb
 refine W.mixN 8 [true, false, true, true, true, false] [CfBk cb c.cfg] Tryz.mix (by kernel_rfl) ?_
 repeat' (first | refine go ?_ | (refine I.ld ?_; refine lA rfl ?_) | refine mU ?_ | refine mA ?_ | fail)
 refine WX.call rfl (nodes_ct ok) rfl ?_
 rintro _ _ ⟨h1, hs1, rfl⟩
 simp only [List.cons_append, List.nil_append]
 repeat' (first | refine go ?_ | (refine I.ld ?_; refine ld rfl ?_) | (refine I.fa ?_; refine fa ?_) | (refine I.bin ?_; refine su ?_) | refine mU ?_ | refine mA ?_ | fail)
 refine WX.callQ rfl (at_ct hs1.rs (c.cfg.n - 1)) rfl ?_
 rw [hli]
 repeat' (first | refine go ?_ | refine asg ?_ | refine mN ?_ | fail)
 exact D.fin1 [] _ rfl rfl ⟨rfl, rfl⟩
end Go.Proofs.YtfcefidmdijjkaaGreat
namespace Go.Proofs.YtfcefidmdijjkaaGreat
open Go Go.Sl
def SegM (l : List Lf) : Prop := ∀ (i : Nat) (f : Lf), l[i]? = some f → i + 1 < l.length → 4096 ≤ (bytes f.rs).length
theorem SegM.nil : SegM [] := fun i f h => by simp at h
theorem SegM.add1 {l : List Lf} (s : SegM l) (r : Rec) : SegM (ladd1 l r).1 := by
 unfold ladd1
 by_cases hr : r.code = 0
 ·rw [if_neg (by simpa using hr)]
  rcases List.eq_nil_or_concat l with rfl | ⟨pre, f, rfl⟩
  ·intro i f h h2
   simp only [List.getLast?_nil, List.length_cons, List.length_nil] at h2
   omega
  ·rw [List.concat_eq_append] at s ⊢
   rw [List.getLast?_concat]
   simp only [List.dropLast_concat]
   have hpl : (pre ++ [f]).length = pre.length + 1 := by simp
   split
   ·split
    ·exact s
    ·intro i x h h3
     rcases Nat.lt_or_ge i (pre ++ [f]).length with hlt | hge
     ·rw [List.getElem?_append_left hlt] at h
      rcases Nat.lt_or_ge (i + 1) (pre ++ [f]).length with h2 | h2
      ·exact s i x h h2
      ·obtain rfl : i = pre.length := by omega
       rw [List.getElem?_concat_length] at h
       cases h
       assumption
     ·simp only [List.length_append, List.length_cons, List.length_nil] at h3 hge
      omega
   ·split
    ·exact s
    ·intro i x h h3
     rcases Nat.lt_or_ge i pre.length with hlt | hge
     ·rw [List.getElem?_append_left hlt] at h
      exact s i x (by rw [List.getElem?_append_left hlt]; exact h) (by omega)
     ·simp only [List.length_append, List.length_cons, List.length_nil] at h3 hge
      omega
 ·rw [if_pos hr]; exact s
theorem SegM.sync {l : List Lf} (s : SegM l) : SegM (lsync l) := by
 intro i f h h2
 unfold lsync at h h2
 rw [List.getElem?_map] at h
 rw [List.length_map] at h2
 cases hy : l[i]? with
 | none => rw [hy] at h; cases h
 | some y => rw [hy] at h; cases h; exact s i y hy h2
theorem segs_sum {g : Lf → Nat} : ∀ l : List Lf, (∀ (i : Nat) (f : Lf), l[i]? = some f → i + 1 < l.length → 4096 ≤ g f) → 4096 * (l.length - 1) ≤ (l.map g).sum
 | [], _ => Nat.zero_le _
 | [x], _ => by simp
 | x :: y :: t, h => by
  have h1 := segs_sum (g := g) (y :: t) fun i f hi hl => h (i + 1) f hi (by simpa using hl)
  have h2 := h 0 x rfl (by simp)
  simp only [List.map_cons, List.sum_cons, List.length_cons] at h1 ⊢
  omega
theorem rec2_len {r : Rec} (gd : r.Good) (hk : r.k = 2) : r.fr.length ≤ 141 := by
 have hz : ∀ it ∈ Rec.its r.k, wt r.enc it = 0 := by
  rw [hk, show Rec.its 2 = [.num 0, .num 21, .num 22, .num 23, .num 24, .num 25, .num 26, .num 27, .num 28, .num 29, .num 30, .tru 31, .num 32, .num 33, .num 34] from rfl]
  intro it hit
  simp only [List.mem_cons, List.not_mem_nil, or_false] at hit
  rcases hit with rfl | rfl | rfl | rfl | rfl | rfl | rfl | rfl | rfl | rfl | rfl | rfl | rfl | rfl | rfl <;> rfl
 have h1 := wfold_len (vs := r.enc) (its := Rec.its r.k) (C := {}) (r.typed r.k) (fun it hit => by rw [hz it hit]; decide)
 have hs : ((Rec.its r.k).map (wt r.enc)).sum = 0 := by
  have : ∀ l : List It, (∀ it ∈ l, wt r.enc it = 0) → (l.map (wt r.enc)).sum = 0 := by
   intro l
   induction l with
   | nil => intro _; rfl
   | cons y t ih =>
    intro hl
    rw [List.map_cons, List.sum_cons, hl y (List.mem_cons_self ..), ih fun x hx => hl x (List.mem_cons_of_mem _ hx)]
  exact this _ hz
 have h3 : (Rec.its r.k).length = 15 := by rw [hk]; rfl
 have h4 : r.w.b.length = ((Rec.its r.k).foldl (wstep r.enc) {}).b.length := rfl
 have h5 : ({} : Cd).b.length = 0 := rfl
 have h6 : r.w.b = r.body := by rw [gd.w]
 have h7 := gd.fr_len
 rw [h6] at h4
 omega
theorem used_m {l : List Lf} (h : MLog l) : (dk l).used ≤ 141 * (recs l).length := by
 have key : ∀ l : List Lf, (∀ f ∈ l, ∀ r ∈ f.rs, r.code = 0 ∧ r.k = 2) → (dk l).used ≤ 141 * (recs l).length := by
  intro l
  induction l with
  | nil => intro _; exact Nat.le_refl _
  | cons f t ih =>
   intro hg
   have h1 := ih fun x hx => hg x (List.mem_cons_of_mem _ hx)
   have h2 : ∀ rs : List Rec, (∀ r ∈ rs, r.code = 0 ∧ r.k = 2) → (bytes rs).length ≤ 141 * rs.length := by
    intro rs
    induction rs with
    | nil => intro _; exact Nat.le_refl _
    | cons r t ih =>
     intro hr
     obtain ⟨a1, a2⟩ := hr r (List.mem_cons_self ..)
     have := rec2_len (Rec.good a1) a2
     have := ih fun x hx => hr x (List.mem_cons_of_mem _ hx)
     rw [bytes_cons, List.length_append, List.length_cons]; omega
   have h3 := h2 f.rs (hg f (List.mem_cons_self ..))
   rw [show f :: t = [f] ++ t from rfl, recs_app, recs_one, List.length_append]
   rw [dk_used] at h1 ⊢
   rw [List.map_append, List.sum_append]
   simp only [List.map_cons, List.map_nil, List.sum_cons, List.sum_nil]
   omega
 refine key l fun f hf r hr => ⟨h.ok.good f hf r hr, h.kind r ?_⟩
 unfold recs
 exact List.mem_flatten.2 ⟨f.rs, List.mem_map.2 ⟨f, hf, rfl⟩, hr⟩
theorem room_many {l : List Lf} (h : MLog l) (s : SegM l) (hf : (recs l).length ≤ 1300) : roomB l 1 = true := by
 have h2 := used_m h
 have h3 := segs_sum (g := fun f => (bytes f.rs).length) l s
 rw [← dk_used] at h3
 unfold roomB
 exact decide_eq_true ⟨by decide, by decide, by omega, by omega⟩
def Gr (s t : MS) (k : Nat) : Prop := (SegM s.lg → SegM t.lg) ∧ (recs t.lg).length ≤ (recs s.lg).length + k
theorem Gr.rfl' (s : MS) (k : Nat) : Gr s s k := ⟨id, Nat.le_add_right _ _⟩
theorem Gr.same {s t : MS} (k : Nat) (h : t.lg = s.lg) : Gr s t k := by unfold Gr; rw [h]; exact ⟨id, Nat.le_add_right _ _⟩
theorem Gr.mono {s t : MS} {k k' : Nat} (h : Gr s t k) (hk : k ≤ k') : Gr s t k' := ⟨h.1, by have := h.2; omega⟩
theorem Gr.lay {s : MS} (ok : MsOk s) {r : Nat} (hr : r < s.rn) {c : Ch} (hc : ChOk c) : Gr s (layS s r c).1 1 := by
 unfold layS Gr
 by_cases hrm : roomB s.lg 1 = true
 ·obtain ⟨_, _, g3⟩ := lay_log ok.lg (r := r) (by have := ok.r3; omega) (Ch.cfgN hc) hrm
  simp only [hrm, if_true]
  rw [g3, List.length_append, List.length_singleton]
  exact ⟨fun h => (h.add1 _).sync, Nat.le_refl _⟩
 ·simp only [hrm]
  exact ⟨id, Nat.le_succ _⟩
theorem Gr.t1 {s : MS} (ok : MsOk s) {r : Nat} (hr : r < s.rn) : Gr s (tick1S s r).1 1 := by
 unfold tick1S
 split
 ·rename_i c hc
  obtain ⟨x, _, hx⟩ := fsome_ok hc
  exact Gr.lay (s := s.tick r) (ok.tick r) hr ((ok.ch r hr).dropL hx)
 ·exact Gr.same 1 rfl
theorem Gr.tK {s : MS} (ok : MsOk s) : ∀ k, k ≤ s.rn → Gr s (tickK s k).1 k
 | 0, _ => Gr.rfl' s 0
 | k + 1, hk => by
  have h1 := Gr.tK ok k (by omega)
  have sm := SameM.tickK s k
  have h2 := Gr.t1 (MsOk.tickK ok k (by omega)) (r := k) (by rw [sm.rn]; omega)
  exact ⟨fun h => h2.1 (h1.1 h), by have := h1.2; have := h2.2; show (recs (tick1S (tickK s k).1 k).1.lg).length ≤ _; omega⟩
theorem Gr.handle {s : MS} (ok : MsOk s) (x : Msg) : Gr s (handleS s x).1 1 := by
 unfold handleS
 by_cases hup : s.up = false
 ·rw [if_pos hup]; exact .rfl' _ _
 rw [if_neg hup]
 by_cases h1 : x.kind = 1
 ·rw [if_pos h1]; exact .rfl' _ _
 rw [if_neg h1]
 by_cases hn : nodeB s x.fr = false
 ·rw [if_pos hn]; exact .rfl' _ _
 rw [if_neg hn]
 obtain ⟨hr, -⟩ := nodeB_rg (by simpa using hn)
 by_cases h10 : x.kind = 10
 ·rw [if_pos h10]
  unfold helloS
  split
  ·rename_i c hc
   exact Gr.lay (s := s.heard _ _) (ok.heard _ _) hr ((ok.ch _ hr).addL hc)
  ·exact Gr.same 1 rfl
 rw [if_neg h10]
 by_cases h11 : x.kind = 11
 ·rw [if_pos h11]
  unfold caughtS
  split
  ·rename_i c hc
   split
   ·exact Gr.lay ok hr ((ok.ch _ hr).growL hc)
   ·exact .rfl' _ _
  ·exact .rfl' _ _
 ·rw [if_neg h11]; exact .rfl' _ _
theorem Gr.act {s : MS} (ok : MsOk s) (dc : Int) (a : Ac) : Gr s (actP s dc a) 3 := by
 have r3 := ok.r3
 unfold actP
 split
 ·exact (Gr.handle ok _).mono (by decide)
 ·unfold actT
  split
  ·unfold tickS
   split
   ·exact (Gr.tK ok _ (Nat.le_refl _)).mono r3
   ·exact .rfl' _ _
  split
  ·unfold susS
   split
   ·rename_i h
    split
    ·rename_i c hc
     exact (Gr.lay ok (by omega) ((ok.ch _ (by omega)).dropL hc)).mono (by decide)
    ·exact .rfl' _ _
   ·exact .rfl' _ _
  split
  ·exact Gr.same 3 rfl
  split
  ·exact Gr.same 3 (by show (startS s).lg = _; unfold startS; split <;> rfl)
  split
  ·exact (Gr.handle ok _).mono (by decide)
  ·exact .rfl' _ _
structure Tidy (s : MS) (i : Nat) : Prop where
 seg : SegM s.lg
 few : (recs s.lg).length ≤ 3 + 3 * i
 ep : ∀ r, r < s.rn → (s.ch r).ep ≤ 1 + (i : Int)
theorem Tidy.act {s : MS} {i : Nat} (t : Tidy s i) (ok : MsOk s) (dc : Int) (a : Ac) : Tidy (actP s dc a) (i + 1) := by
 have h := Gr.act ok dc a
 refine ⟨h.1 t.seg, by have := h.2; have := t.few; omega, fun r hr => ?_⟩
 have hrs : r < s.rn := by rw [(actP_same s dc a).rn] at hr; exact hr
 have h1 := t.ep r hrs
 rcases actP_near ok dc a r with h2 | ⟨h2, _⟩
 ·rw [h2]; omega
 ·rw [h2]; omega
theorem segM_newL (nn : Nat) : ∀ k, SegM (newL nn k)
 | 0 => SegM.nil
 | k + 1 => ((segM_newL nn k).add1 _).sync
theorem tidy_new {dcs cl dc : Int} {rn nn : Nat} (r3 : rn ≤ 3) (n1 : 1 ≤ nn) (n4 : nn ≤ 4) : Tidy (newS dcs rn nn cl dc) 0 :=
 ⟨segM_newL nn rn, by show (recs (newL nn rn)).length ≤ _; rw [(newL_ok n1 n4 rn r3).2, List.length_map, List.length_range]; omega, fun r hr => by show (1 : Int) ≤ 1 + ((0 : Nat) : Int); decide⟩
theorem Tidy.start {s : MS} {i : Nat} (t : Tidy s i) : Tidy (startS s) i := by
 unfold startS
 split
 ·exact t
 ·exact ⟨t.seg, t.few, t.ep⟩
theorem sinceC_pos {c : Ch} (ok : ChOk c) {k : Int} : 0 < sinceC c k ↔ ∃ m ∈ c.all, m.nd = k := by
 unfold sinceC
 cases hf : c.all.findIdx? (fun p => decide (p.nd = k)) with
 | none =>
  rw [List.findIdx?_eq_none_iff] at hf
  refine ⟨fun h => absurd (show (0 : Int) < 0 from h) (by decide), fun ⟨m, hm, e⟩ => ?_⟩
  have := hf m hm
  simp [e] at this
 | some j =>
  obtain ⟨h1, h2, _⟩ := List.findIdx?_eq_some_iff_getElem.1 hf
  have hm : c.all[j]? = some c.all[j] := List.getElem?_eq_getElem h1
  have hmem : c.all[j] ∈ c.all := List.getElem_mem h1
  have := (ok.rg _ hmem).2.2.1
  simp only [List.getD_eq_getElem?_getD, hm, Option.getD_some]
  exact ⟨fun _ => ⟨_, hmem, by simpa using h2⟩, fun _ => by omega⟩
theorem addL_none {c : Ch} (ok : ChOk c) {n : Int} (h0 : 0 ≤ n) (h4 : n < 4) (he : c.ep < 1099511627776) : addL c n = none ↔ (0 < sinceC c n ∨ c.ln.isSome = true) := by
 rw [sinceC_pos ok]
 unfold addL
 constructor
 ·intro h
  split at h
  ·rename_i hc
   rcases hc with hc | hc | hc | hc | hc
   ·omega
   ·exact .inr hc
   ·omega
   ·omega
   ·obtain ⟨m, hm, e⟩ := Ch.has_iff.1 hc
    exact .inl ⟨m, List.mem_append_left _ hm, e⟩
  ·cases h
 ·intro h
  rw [if_pos]
  rcases h with ⟨m, hm, e⟩ | h
  ·rcases List.mem_append.1 hm with hm | hm
   ·exact .inr (.inr (.inr (.inr (Ch.has_iff.2 ⟨m, hm, e⟩))))
   ·refine .inr (.inl ?_)
    cases hl : c.ln with
    | none => rw [hl] at hm; cases hm
    | some x => rfl
  ·exact .inr (.inl h)
end Go.Proofs.YtfcefidmdijjkaaGreat
