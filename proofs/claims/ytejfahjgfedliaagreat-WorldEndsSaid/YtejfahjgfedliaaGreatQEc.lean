/-
  Texts of one road, one behind the other.
-/
import Derived.Test.YtejfahjgfedliaaGreatQEb
set_option linter.unusedVariables false
set_option linter.unusedSimpArgs false
namespace Go.Proofs.YtejfahjgfedliaaGreat
open Go Go.Sl Go.Proofs.Tryz List
def Lf.full (f : Lf) : Lf := ⟨f.n, f.rs, f.rs.length⟩
def lsync (l : List Lf) : List Lf := l.map Lf.full
theorem Lf.full_ps (f : Lf) : f.full.ps = [] := by unfold Lf.full Lf.ps; simp
theorem LOk.full {pre post : List Lf} (h : LOk (pre ++ post)) : LOk (pre.map Lf.full ++ post) where
 up := by
  have := h.up
  rw [pairwise_append] at this ⊢
  refine ⟨pairwise_map.2 this.1, this.2.1, fun a ha b hb => ?_⟩
  obtain ⟨a', ha', rfl⟩ := mem_map.1 ha
  exact this.2.2 a' ha' b hb
 good := fun f hf => by
  rcases mem_append.1 hf with hf | hf
  ·obtain ⟨a', ha', rfl⟩ := mem_map.1 hf
   exact h.good a' (mem_append_left _ ha')
  ·exact h.good f (mem_append_right _ hf)
 k := fun f hf => by
  rcases mem_append.1 hf with hf | hf
  ·obtain ⟨a', ha', rfl⟩ := mem_map.1 hf
   exact Nat.le_refl _
  ·exact h.k f (mem_append_right _ hf)
 tail := by
  have := h.tail
  rw [pairwise_append] at this ⊢
  refine ⟨pairwise_map.2 (this.1.imp fun _ hlt => absurd hlt (Nat.lt_irrefl _)), this.2.1, fun a ha b hb hlt => ?_⟩
  obtain ⟨a', ha', rfl⟩ := mem_map.1 ha
  exact absurd hlt (Nat.lt_irrefl _)
 lo := fun f hf => by
  rcases mem_append.1 hf with hf | hf
  ·obtain ⟨a', ha', rfl⟩ := mem_map.1 hf
   exact h.lo a' (mem_append_left _ ha')
  ·exact h.lo f (mem_append_right _ hf)
 hi := fun f hf => by
  rcases mem_append.1 hf with hf | hf
  ·obtain ⟨a', ha', rfl⟩ := mem_map.1 hf
   exact h.hi a' (mem_append_left _ ha')
  ·exact h.hi f (mem_append_right _ hf)
 used := by
  have := h.used
  rw [dk_used] at this ⊢
  simp only [map_append, sum_append, map_map] at this ⊢
  exact this
 len := by have := h.len; simp only [length_append, length_map] at this ⊢; exact this
theorem LOk.sync {l : List Lf} (h : LOk l) : LOk (lsync l) := by
 have := LOk.full (pre := l) (post := []) (by simpa using h)
 simpa [lsync] using this
theorem lastN_sync (l : List Lf) : lastN (lsync l) = lastN l := by
 rcases eq_nil_or_concat l with rfl | ⟨pre, f, rfl⟩
 ·rfl
 ·rw [concat_eq_append]
  unfold lsync
  rw [map_append, map_cons, map_nil, lastN_app, lastN_app]
  rfl
theorem ps_name {f : Lf} {p : Pc} (h : p ∈ f.ps) : p.f = f.n := by
 unfold Lf.ps at h
 obtain ⟨r, _, rfl⟩ := mem_map.1 h
 rfl
theorem ps_other {l : List Lf} {n : Int} (h : ∀ f ∈ l, f.n ≠ n) : ((l.map Lf.ps).flatten.filter fun p => decide (p.f ≠ n)) = (l.map Lf.ps).flatten := by
 rw [filter_eq_self]
 intro p hp
 obtain ⟨x, hx, hpx⟩ := mem_flatten.1 hp
 obtain ⟨f, hf, rfl⟩ := mem_map.1 hx
 rw [ps_name hpx]
 exact decide_eq_true (h f hf)
theorem ps_same {f : Lf} {n : Int} (h : f.n = n) : (f.ps.filter fun p => decide (p.f ≠ n)) = [] := by
 rw [filter_eq_nil_iff]
 intro p hp
 rw [ps_name hp]
 simp [h]
theorem dk_sync {pre post : List Lf} {f : Lf} (h : LUp (pre ++ f :: post)) : (dk (pre ++ f :: post)).sync f.n = dk (pre ++ f.full :: post) := by
 unfold DkS.sync
 rw [dk_find h]
 have hm := h.mid_ne
 have h1 : ∀ (l : List Lf), (∀ x ∈ l, x.n ≠ f.n) → (l.map Lf.file).map (fun x => if x.n = f.n then { x with s := x.b.length } else x) = l.map Lf.file := by
  intro l hl
  rw [map_map]
  apply map_congr_left
  intro x hx
  exact if_neg (hl x hx)
 have h2 := h1 pre fun x hx => by have := hm.1 x hx; omega
 have h3 := h1 post fun x hx => by have := hm.2 x hx; omega
 have h4 := ps_other (l := pre) (n := f.n) fun x hx => by have := hm.1 x hx; omega
 have h5 := ps_other (l := post) (n := f.n) fun x hx => by have := hm.2 x hx; omega
 simp only [Option.isNone_some, Bool.false_eq_true, if_false]
 unfold DkS.onF dk
 simp only [map_append, map_cons, h2, h3, flatten_append, flatten_cons, filter_append, h4, h5, ps_same rfl, Lf.full_ps, nil_append]
 congr 3
 have h6 : f.file.n = f.n := rfl
 refine (if_pos h6).trans ?_
 simp [Lf.file, Lf.full]
theorem dk_remove {post : List Lf} {f : Lf} (h : LUp (f :: post)) : (dk (f :: post)).remove f.n = dk post := by
 unfold DkS.remove
 rw [show (dk (f :: post)).find f.n = some f.file from dk_find (pre := []) h]
 have hm := (LUp.mid_ne (pre := []) h).2
 simp only [Option.isNone_some, Bool.false_eq_true, if_false]
 have h5 := ps_other (l := post) (n := f.n) fun x hx => by have := hm x hx; omega
 unfold dk
 simp only [map_cons, flatten_cons, filter_append, h5, ps_same rfl, nil_append]
 rw [filter_cons_of_neg (by simp [Lf.file])]
 congr 1
 rw [filter_eq_self]
 intro x hx
 obtain ⟨y, hy, rfl⟩ := mem_map.1 hx
 have := hm y hy
 exact decide_eq_true (by show y.n ≠ f.n; omega)
theorem LUp.tl {post : List Lf} {f : Lf} (h : LUp (f :: post)) : LUp post where
 up := (pairwise_cons.1 h.up).2
 good := fun x hx => h.good x (mem_cons_of_mem _ hx)
 k := fun x hx => h.k x (mem_cons_of_mem _ hx)
 lo := fun x hx => h.lo x (mem_cons_of_mem _ hx)
 hi := fun x hx => h.hi x (mem_cons_of_mem _ hx)
 used := by have := h.used; rw [dk_used] at this ⊢; simp only [map_cons, sum_cons] at this; omega
 len := by have := h.len; rw [length_cons] at this; omega
theorem LOk.tl {post : List Lf} {f : Lf} (h : LOk (f :: post)) : LOk post := ⟨h.toLUp.tl, (pairwise_cons.1 h.tail).2⟩
theorem dk_synced {pre post : List Lf} {f : Lf} (h : LUp (pre ++ f :: post)) : (dk (pre ++ f :: post)).synced f.n = (bytes (f.rs.take f.k)).length ∧ (dk (pre ++ f :: post)).size f.n = (bytes f.rs).length := by
 unfold DkS.synced DkS.size
 rw [dk_find h]
 exact ⟨rfl, rfl⟩
theorem full_of {f : Lf} (hg : ∀ r ∈ f.rs, r.code = 0) (hk : f.k ≤ f.rs.length) (h : ¬ (bytes (f.rs.take f.k)).length < (bytes f.rs).length) : f.full = f := by
 have h1 := bytes_take_drop f.rs f.k
 have h2 : (bytes (f.rs.drop f.k)).length = 0 := by
  have := congrArg List.length h1
  rw [length_append] at this; omega
 have h3 : f.rs.drop f.k = [] := by
  cases hd : f.rs.drop f.k with
  | nil => rfl
  | cons r t =>
   have := bytes_pos (rs := f.rs.drop f.k) (fun r hr => hg r (mem_of_mem_drop hr)) (by rw [hd]; simp)
   omega
 have h4 : f.rs.length ≤ f.k := drop_eq_nil_iff.1 h3
 obtain ⟨n, rs, k⟩ := f
 simp only [] at h4 hk
 unfold Lf.full
 simp only [Lf.mk.injEq, true_and]; omega
set_option maxHeartbeats 2000000 in
theorem sync_ct {l : List Lf} (ok : LOk l) {d : Nat} {h : Hp} (hd : IsDk (dk l) d h) {w : Nat} {seg torn : Int} :
  Ct prog 69 [.pointer (some ⟨w, 0, none⟩)] [WBk w d seg torn, h] (fun res H' => ∃ h', res = .int .i64 0 ∧ H' = [WBk w d seg torn, h'] ∧ IsDk (dk (lsync l)) d h') := by
 have hfc := files_ct hd (by rw [ok.fs_len]; have := ok.len; omega)
 rw [dk_names ok] at hfc
 have hll := ok.len
 have hnl : (l.map (·.n)).length = l.length := length_map _
 refine Ct.mk' func69 rfl rfl rfl (fun g R => ?_)
 try simp only [ca]
 simp only [na]
 try refine run ?_
 refine WX.call rfl hfc rfl ?_
 rintro u _ ⟨hb, rfl, hs⟩
 have hr := hs.rs
 simp only [ca, na]
 try refine run ?_
 refine W.loop (α := Nat × Hp) (fun x => x.1 ≤ l.length ∧ IsDk (dk ((l.take x.1).map Lf.full ++ l.drop x.1)) d x.2)
  (fun x => [(0, .pointer (some ⟨w, 0, none⟩)), (9, u), (10, .int .i64 ((l.map (·.n)).length : Int)), (11, .int .i64 (x.1 : Int))])
  (fun x => [WBk w d seg torn, x.2, hb, R]) (fun x => l.length - x.1) (0, h) ⟨Nat.zero_le _, by simpa using hd⟩ (by repeat (first | exact Fsub.nil | refine Fsub.cons rfl ?_)) (Hsub.of_picks inferInstance) ?_
 rintro ⟨i, y⟩ ⟨hi, hdm⟩
 simp only [] at hi hdm ⊢
 by_cases hlt : i < l.length
 ·obtain ⟨f, hf⟩ : ∃ f, l[i]? = some f := ⟨_, List.getElem?_eq_getElem hlt⟩
  have hn : (l.map (·.n))[i]? = some f.n := by rw [List.getElem?_map, hf]; rfl
  have hdr : l.drop i = f :: l.drop (i + 1) := by
   rw [drop_eq_getElem_cons hlt, (List.getElem?_eq_some_iff.1 hf).2]
  have htk : (l.take (i + 1)).map Lf.full = (l.take i).map Lf.full ++ [f.full] := by
   rw [take_succ_eq_append_getElem hlt, (List.getElem?_eq_some_iff.1 hf).2, map_append]; rfl
  have okm : LOk ((l.take i).map Lf.full ++ l.drop i) := LOk.full (by rw [take_append_drop]; exact ok)
  rw [hdr] at okm hdm
  have hsc := synced_ct hdm f.n
  have hzc := size_ct hdm f.n
  have hyc := dsync_ct hdm f.n okm.loose
  obtain ⟨e1, e2⟩ := dk_synced okm.toLUp
  rw [e1] at hsc
  rw [e2] at hzc
  rw [dk_sync okm.toLUp] at hyc
  have hl1 := bytes_take_le f.rs f.k
  try refine run ?_
  refine W.quiet Tryz.mix (by kernel_rfl) ?_
  try refine run ?_
  refine WX.callQ rfl hsc rfl ?_
  try refine run ?_
  refine WX.callQ rfl hzc rfl ?_
  have hnext : (l.take (i + 1)).map Lf.full ++ l.drop (i + 1) = (l.take i).map Lf.full ++ f.full :: l.drop (i + 1) := by rw [htk]; simp
  by_cases hq : (bytes (f.rs.take f.k)).length < (bytes f.rs).length
  ·try refine run ?_
   refine WX.call rfl hyc rfl ?_
   rintro _ _ ⟨y', rfl, rfl, hdy⟩
   simp only [ca, na]
   try refine run ?_
   exact D.rd (i + 1, y') ⟨by simp only []; omega, by simp only []; rw [hnext]; exact hdy⟩ (by simp only []; omega)
  ·have hfu := full_of (ok.good f (mem_of_getElem? hf)) (ok.k f (mem_of_getElem? hf)) hq
   try refine run ?_
   exact D.rd (i + 1, y) ⟨by simp only []; omega, by simp only []; rw [hnext, hfu]; exact hdm⟩ (by simp only []; omega)
 ·obtain rfl : i = l.length := by omega
  rw [take_length, drop_length, append_nil] at hdm
  try refine run ?_
  exact D.fin1 [WBk w d seg torn, y] _ rfl rfl ⟨y, rfl, rfl, hdm⟩
def cutR : Rec := ⟨3, Ent.z, Cfg.z, 0⟩
theorem cutR_code : cutR.code = 0 := rfl
def lcut (l : List Lf) : List Lf × Int := if (dk l).appE (lastN l + 1) cutR.fr.length ≠ 0 then (l, 51) else ([⟨lastN l + 1, [cutR], 1⟩], 0)
theorem LOk.last {pre : List Lf} {f : Lf} (h : LOk (pre ++ [f])) : LOk [f] := by
 induction pre with
 | nil => exact h
 | cons x t ih => exact ih h.tl
theorem LUp.suf {pre post : List Lf} (h : LUp (pre ++ post)) : LUp post := by
 induction pre with
 | nil => exact h
 | cons x t ih => exact ih h.tl
theorem LUp.setK {l : List Lf} {n : Int} {rs : List Rec} {k : Nat} (h : LUp (l ++ [⟨n, rs, k⟩])) : LUp (l ++ [⟨n, rs, rs.length⟩]) where
 up := by
  have := h.up
  rw [pairwise_append] at this ⊢
  exact ⟨this.1, pairwise_singleton .., fun a ha b hb => by rw [mem_singleton.1 hb]; exact this.2.2 a ha ⟨n, rs, k⟩ (mem_singleton.2 rfl)⟩
 good := fun f hf => by
  rcases mem_append.1 hf with hf | hf
  ·exact h.good f (mem_append_left _ hf)
  ·rw [mem_singleton.1 hf]; exact h.good ⟨n, rs, k⟩ (by simp)
 k := fun f hf => by
  rcases mem_append.1 hf with hf | hf
  ·exact h.k f (mem_append_left _ hf)
  ·rw [mem_singleton.1 hf]; exact Nat.le_refl _
 lo := fun f hf => by
  rcases mem_append.1 hf with hf | hf
  ·exact h.lo f (mem_append_left _ hf)
  ·rw [mem_singleton.1 hf]; exact h.lo ⟨n, rs, k⟩ (by simp)
 hi := fun f hf => by
  rcases mem_append.1 hf with hf | hf
  ·exact h.hi f (mem_append_left _ hf)
  ·rw [mem_singleton.1 hf]; exact h.hi ⟨n, rs, k⟩ (by simp)
 used := by
  have := h.used
  rw [dk_used] at this ⊢
  simpa using this
 len := by have := h.len; simpa using this
theorem lcut_new {l : List Lf} (ok : LOk l) (he : (dk l).appE (lastN l + 1) cutR.fr.length = 0) : LOk (l ++ [⟨lastN l + 1, [cutR], 0⟩]) ∧ (dk l).app (lastN l + 1) cutR.fr = dk (l ++ [⟨lastN l + 1, [cutR], 0⟩]) := by
 have hn := find_next ok (n := lastN l + 1) (by omega)
 have hrg := lastN_range ok
 refine ⟨?_, dk_app_new he hn⟩
 rw [appE_len, hn] at he
 simp only [Option.isNone_none, true_and] at he
 split at he
 ·exact absurd he (by decide)
 ·split at he
  ·exact absurd he (by decide)
  ·rename_i h1 h2
   refine ok.app (fun x hx => ?_) (by intro r hr; rw [mem_singleton.1 hr]; rfl) rfl (by simp only []; omega) (by simp only []; omega) (by omega) (by simp [bytes]; omega)
   obtain ⟨pre, post, rfl⟩ := append_of_mem hx
   rcases eq_nil_or_concat post with rfl | ⟨q, z, rfl⟩
   ·rw [lastN_app]; simp only []; omega
   ·have h3 := ok.mid_ne.2
    rw [concat_eq_append] at h3 ⊢
    have h4 := h3 z (by simp)
    have : lastN (pre ++ x :: (q ++ [z])) = z.n := by
     rw [show pre ++ x :: (q ++ [z]) = (pre ++ x :: q) ++ [z] from by simp, lastN_app]
    rw [this]; simp only []; omega
theorem LOk.cut {l : List Lf} (ok : LOk l) : LOk (lcut l).1 := by
 unfold lcut
 by_cases he : (dk l).appE (lastN l + 1) cutR.fr.length = 0
 ·rw [if_neg (by simpa using he)]
  have h1 := (lcut_new ok he).1.last
  have h2 := LOk.sync h1
  exact h2
 ·rw [if_pos he]; exact ok
set_option maxHeartbeats 2000000 in
theorem cut_ct {l : List Lf} (ok : LOk l) {d : Nat} {h : Hp} (hd : IsDk (dk l) d h) {w : Nat} {torn : Int} :
  Ct prog 82 [.pointer (some ⟨w, 0, none⟩)] [WBk w d (lastN l) torn, h] (fun res H' => ∃ h', res = .int .i64 (lcut l).2 ∧ H' = [WBk w d (lastN (lcut l).1) torn, h'] ∧ IsDk (dk (lcut l).1) d h') := by
 have hrp := recordP_ct cutR (by decide)
 rw [cutR_code] at hrp
 have hle := (Rec.good cutR_code).fr_le
 have hrg := lastN_range ok
 refine Ct.mk' func82 rfl rfl rfl (fun g R => ?_)
 try simp only [ca]
 simp only [na]
 try refine run ?_
 refine WX.as 8 (.agg cutR.enc.toArray) rfl rfl ?_
 refine WX.call rfl hrp rfl ?_
 rintro _ _ ⟨u, hb, rfl, rfl, hs⟩
 simp only [ca, na]
 have hap := append_ct hd (lastN l + 1) hs.rs (by omega) ok.used (by rw [ok.fs_len]; exact ok.len) ok.loose
 try refine run ?_
 refine W.mix (List.replicate 10 true ++ [false, true]) [WBk w d (lastN l) torn] Tryz.mix (by kernel_rfl) ?_
 try refine run ?_
 refine WX.call rfl hap rfl ?_
 rintro _ _ ⟨y, rfl, rfl, hdy⟩
 simp only [ca, na]
 by_cases hE : (dk l).appE (lastN l + 1) cutR.fr.length = 0
 ·have hlc : lcut l = ([⟨lastN l + 1, [cutR], 1⟩], 0) := by unfold lcut; rw [if_neg (by simpa using hE)]
  obtain ⟨okn, e1⟩ := lcut_new ok hE
  rw [e1] at hdy
  have hsy := dsync_ct hdy (lastN l + 1) okn.loose
  rw [show (dk (l ++ [⟨lastN l + 1, [cutR], 0⟩])).sync (lastN l + 1) = dk (l ++ [⟨lastN l + 1, [cutR], 1⟩]) from dk_sync (post := []) (f := ⟨lastN l + 1, [cutR], 0⟩) okn.toLUp] at hsy
  have okc : LUp (l ++ [⟨lastN l + 1, [cutR], 1⟩]) := okn.toLUp.setK
  have hll := okc.len
  have hll' : l.length + 1 ≤ 64 := by simpa using hll
  have hnl : ((l ++ [(⟨lastN l + 1, [cutR], 1⟩ : Lf)]).map (·.n)).length = l.length + 1 := by simp
  try refine run ?_
  refine W.mix (List.replicate 8 true) [WBk w d (lastN l + 1) torn] Tryz.mix (by kernel_rfl) ?_
  try refine run ?_
  refine WX.call rfl hsy rfl ?_
  rintro _ _ ⟨y2, rfl, rfl, hd2⟩
  have hfc := files_ct hd2 (by rw [okc.fs_len]; omega)
  rw [dk_names okc] at hfc
  simp only [ca, na]
  try refine run ?_
  refine WX.call rfl hfc rfl ?_
  rintro u2 _ ⟨hb2, rfl, hs2⟩
  have hr2 := hs2.rs
  simp only [ca, na]
  try refine run ?_
  refine W.loop (α := Nat × Hp) (fun x => x.1 ≤ l.length + 1 ∧ IsDk (dk (l.drop x.1 ++ [⟨lastN l + 1, [cutR], 1⟩])) d x.2)
   (fun x => [(0, .pointer (some ⟨w, 0, none⟩)), (44, u2), (45, .int .i64 (((l ++ [(⟨lastN l + 1, [cutR], 1⟩ : Lf)]).map (·.n)).length : Int)), (46, .int .i64 (x.1 : Int))])
   (fun x => [WBk w d (lastN l + 1) torn, x.2, hb2, R]) (fun x => l.length + 1 - x.1) (0, y2) ⟨Nat.zero_le _, by simpa using hd2⟩ (by repeat (first | exact Fsub.nil | refine Fsub.cons rfl ?_)) (Hsub.of_picks inferInstance) ?_
  rintro ⟨i, z⟩ ⟨hi, hdz⟩
  simp only [] at hi hdz ⊢
  by_cases hlt : i < l.length
  ·obtain ⟨f, hf⟩ : ∃ f, l[i]? = some f := ⟨_, List.getElem?_eq_getElem hlt⟩
   have hn : ((l ++ [(⟨lastN l + 1, [cutR], 1⟩ : Lf)]).map (·.n))[i]? = some f.n := by rw [List.getElem?_map, List.getElem?_append_left hlt, hf]; rfl
   have hdr : l.drop i = f :: l.drop (i + 1) := by
    rw [drop_eq_getElem_cons hlt, (List.getElem?_eq_some_iff.1 hf).2]
   have okm : LUp (l.drop i ++ [⟨lastN l + 1, [cutR], 1⟩]) := by
    refine LUp.suf (pre := l.take i) ?_
    rw [← append_assoc, take_append_drop]
    exact okc
   rw [hdr, cons_append] at okm hdz
   have hrm := dremove_ct hdz f.n okm.loose
   rw [dk_remove okm] at hrm
   have hne : f.n < lastN l + 1 := (LUp.mid_ne (pre := []) okm).2 ⟨lastN l + 1, [cutR], 1⟩ (by simp)
   try refine run ?_
   refine WX.call rfl hrm rfl ?_
   rintro _ _ ⟨z', rfl, rfl, hdz'⟩
   simp only [ca, na]
   try refine run ?_
   exact D.rd (i + 1, z') ⟨by simp only []; omega, hdz'⟩ (by simp only []; omega)
  ·by_cases hlt2 : i = l.length
   ·subst hlt2
    have hn : ((l ++ [(⟨lastN l + 1, [cutR], 1⟩ : Lf)]).map (·.n))[l.length]? = some (lastN l + 1) := by rw [List.getElem?_map, List.getElem?_append_right (Nat.le_refl _)]; simp
    rw [drop_length] at hdz
    try refine run ?_
    exact D.rd (l.length + 1, z) ⟨by simp only []; omega, by simp only []; rw [drop_eq_nil_of_le (by omega)]; exact hdz⟩ (by simp only []; omega)
   ·have hdn : l.drop i = [] := drop_eq_nil_of_le (by omega)
    rw [hdn] at hdz
    try refine run ?_
    exact D.fin1 [WBk w d (lastN l + 1) torn, z] _ rfl rfl ⟨z, by rw [hlc], by rw [hlc]; rfl, by rw [hlc]; exact hdz⟩
 ·have hlc : lcut l = (l, 51) := by unfold lcut; rw [if_pos hE]
  have e2 : (dk l).app (lastN l + 1) cutR.fr = dk l := by unfold DkS.app; rw [if_neg hE]
  rw [e2] at hdy
  try refine run ?_
  exact D.fin1 [WBk w d (lastN l) torn, y] _ rfl rfl ⟨y, by rw [hlc], by rw [hlc], by rw [hlc]; exact hdy⟩
end Go.Proofs.YtejfahjgfedliaaGreat

namespace Go.Proofs.YtejfahjgfedliaaGreat
open Go Go.Sl List
def outF (rs : List Rec) : List Rec := rs.foldl (fun o r => if r.k = 3 then [] else o ++ [r]) []
theorem outF_snoc (rs : List Rec) (r : Rec) : outF (rs ++ [r]) = if r.k = 3 then [] else outF rs ++ [r] := by unfold outF; rw [foldl_append]; rfl
theorem outF_len (rs : List Rec) : (outF rs).length ≤ rs.length := by
 have h : ∀ (rs o : List Rec), (rs.foldl (fun o r => if r.k = 3 then [] else o ++ [r]) o).length ≤ o.length + rs.length := by
  intro rs
  induction rs with
  | nil => intro o; simp
  | cons r t ih =>
   intro o
   rw [foldl_cons]
   have := ih (if r.k = 3 then [] else o ++ [r])
   split at this
   ·rename_i h1; rw [if_pos h1]; simp only [length_nil, length_cons] at this ⊢; omega
   ·rename_i h1; rw [if_neg h1]; simp only [length_append, length_cons, length_nil] at this ⊢; omega
 have := h rs []
 simpa [outF] using this
theorem mem_skip {α : Type} {a b c : α} {l : List α} (h : a ∈ b :: l) : a ∈ b :: c :: l := by
 rcases mem_cons.1 h with rfl | h
 ·exact mem_cons_self ..
 ·exact mem_cons_of_mem _ (mem_cons_of_mem _ h)
theorem recs_app (a b : List Lf) : recs (a ++ b) = recs a ++ recs b := by unfold recs; simp
theorem recs_one (f : Lf) : recs [f] = f.rs := by unfold recs; simp
theorem recs_count {l : List Lf} (h : ∀ f ∈ l, ∀ r ∈ f.rs, r.code = 0) : 6 * (recs l).length ≤ (dk l).used := by
 rw [dk_used]
 unfold recs
 induction l with
 | nil => simp
 | cons f t ih =>
  have h1 := bytes_count (h f (mem_cons_self ..))
  have h2 := ih fun x hx => h x (mem_cons_of_mem _ hx)
  simp only [map_cons, flatten_cons, length_append, sum_cons]
  omega
def Short (t : List UInt8) : Prop := ∃ (r : Rec) (k : Nat), r.code = 0 ∧ k < r.fr.length ∧ t = r.fr.take k
def dkX (pre : List Lf) (x : FileP) (post : List FileP) : DkS := ⟨pre.map Lf.file ++ x :: post, []⟩
structure XOk (pre : List Lf) (x : FileP) (post : List FileP) : Prop where
 up : ((pre.map Lf.file ++ x :: post).map (·.n)).Pairwise (· < ·)
 lo : ∀ f ∈ pre.map Lf.file ++ x :: post, 0 ≤ f.n ∧ f.n ≤ 1099511627776
 good : ∀ f ∈ pre, ∀ r ∈ f.rs, r.code = 0
 full : ∀ f ∈ pre, f.full = f
 used : (dkX pre x post).used ≤ 1048576
 len : (pre.map Lf.file ++ x :: post).length ≤ 64
section
variable {pre : List Lf} {x y : FileP} {post : List FileP}
theorem XOk.ne (h : XOk pre x post) : (∀ f ∈ pre, f.n < x.n) ∧ (∀ f ∈ post, x.n < f.n) ∧ ∀ f ∈ pre, ∀ g ∈ post, f.n < g.n := by
 have := h.up
 simp only [map_append, map_cons, map_map] at this
 rw [pairwise_append, pairwise_cons] at this
 refine ⟨fun f hf => this.2.2 _ (mem_map.2 ⟨f, hf, rfl⟩) _ (mem_cons_self ..), fun f hf => this.2.1.1 _ (mem_map.2 ⟨f, hf, rfl⟩), fun f hf g hg => ?_⟩
 exact this.2.2 _ (mem_map.2 ⟨f, hf, rfl⟩) _ (mem_cons_of_mem _ (mem_map.2 ⟨g, hg, rfl⟩))
theorem find_at {a b : List FileP} {x : FileP} {ps : List Pc} (h : ∀ f ∈ a, f.n ≠ x.n) : (DkS.mk (a ++ x :: b) ps).find x.n = some x := by
 have hp : (a.find? fun z => decide (z.n = x.n)) = none := by
  rw [List.find?_eq_none]
  intro z hz hc
  exact h z hz (of_decide_eq_true hc)
 unfold DkS.find
 simp only [List.find?_append, hp, Option.none_or]
 rw [List.find?_cons_of_pos (by simp)]
theorem XOk.find (h : XOk pre x post) : (dkX pre x post).find x.n = some x := find_at fun f hf => by
 obtain ⟨z, hz, rfl⟩ := mem_map.1 hf
 have := h.ne.1 z hz
 show z.n ≠ x.n
 omega
theorem XOk.names (h : XOk pre x post) : (dkX pre x post).names = pre.map (·.n) ++ x.n :: post.map (·.n) := by
 unfold DkS.names dkX
 simp only []
 rw [sortL_sorted (h.up.imp fun hlt => by omega)]
 simp only [map_append, map_cons, map_map]
 rfl
theorem XOk.findP (h : XOk pre x post) {a b : List Lf} {f : Lf} (e : pre = a ++ f :: b) : (dkX pre x post).find f.n = some f.file := by
 subst e
 have h1 : dkX (a ++ f :: b) x post = ⟨a.map Lf.file ++ f.file :: (b.map Lf.file ++ x :: post), []⟩ := by unfold dkX; simp
 rw [h1]
 refine find_at (x := f.file) fun z hz => ?_
 obtain ⟨w, hw, rfl⟩ := mem_map.1 hz
 have := h.up
 simp only [map_append, map_cons, map_map, append_assoc, cons_append] at this
 rw [pairwise_append] at this
 have := this.2.2 _ (mem_map.2 ⟨w, hw, rfl⟩) _ (mem_cons_self ..)
 show w.n ≠ f.n
 have h3 : w.n < f.n := this
 omega
theorem XOk.trunc (h : XOk pre x post) {rs : List Rec} {t : List UInt8} (hb : x.b = bytes rs ++ t) : (dkX pre x post).trunc x.n (bytes rs).length = dkX pre (Lf.file ⟨x.n, rs, rs.length⟩) post := by
 unfold DkS.trunc DkS.onF dkX
 simp only [map_append, map_cons, if_true]
 have h1 : (pre.map Lf.file).map (fun f => if f.n = x.n then { f with b := f.b.take (bytes rs).length, s := (bytes rs).length } else f) = pre.map Lf.file := by
  rw [map_map]
  apply map_congr_left
  intro z hz
  have := h.ne.1 z hz
  exact if_neg (by show ¬ z.n = x.n; omega)
 have h2 : post.map (fun f => if f.n = x.n then { f with b := f.b.take (bytes rs).length, s := (bytes rs).length } else f) = post := by
  have : post.map (fun f => if f.n = x.n then { f with b := f.b.take (bytes rs).length, s := (bytes rs).length } else f) = post.map id := by
   apply map_congr_left
   intro z hz
   have := h.ne.2.1 z hz
   exact if_neg (by omega)
  rw [this, map_id]
 rw [h1, h2]
 congr 3
 rw [hb]
 simp [Lf.file, take_left]
theorem XOk.size (h : XOk pre x (y :: post)) : (dkX pre x (y :: post)).size y.n = y.b.length := by
 unfold DkS.size
 have h1 : dkX pre x (y :: post) = ⟨(pre.map Lf.file ++ [x]) ++ y :: post, []⟩ := by unfold dkX; simp
 have h2 : (dkX pre x (y :: post)).find y.n = some y := by
  rw [h1]
  refine find_at fun z hz => ?_
  rcases mem_append.1 hz with hz | hz
  ·obtain ⟨w, hw, rfl⟩ := mem_map.1 hz
   have := h.ne.2.2 w hw y (mem_cons_self ..)
   show w.n ≠ y.n
   omega
  ·rw [mem_singleton.1 hz]
   have := h.ne.2.1 y (mem_cons_self ..)
   omega
 rw [h2]
theorem XOk.remove (h : XOk pre x (y :: post)) : (dkX pre x (y :: post)).remove y.n = dkX pre x post := by
 have h1 : dkX pre x (y :: post) = ⟨(pre.map Lf.file ++ [x]) ++ y :: post, []⟩ := by unfold dkX; simp
 have h2 : (dkX pre x (y :: post)).find y.n = some y := by
  rw [h1]
  refine find_at fun z hz => ?_
  rcases mem_append.1 hz with hz | hz
  ·obtain ⟨w, hw, rfl⟩ := mem_map.1 hz
   have := h.ne.2.2 w hw y (mem_cons_self ..)
   show w.n ≠ y.n
   omega
  ·rw [mem_singleton.1 hz]
   have := h.ne.2.1 y (mem_cons_self ..)
   omega
 unfold DkS.remove
 rw [h2]
 simp only [Option.isNone_some, Bool.false_eq_true, if_false]
 unfold dkX
 simp only [filter_append, filter_nil]
 congr 1
 have h3 : (pre.map Lf.file).filter (fun f => decide (f.n ≠ y.n)) = pre.map Lf.file := by
  rw [filter_eq_self]
  intro z hz
  obtain ⟨w, hw, rfl⟩ := mem_map.1 hz
  have := h.ne.2.2 w hw y (mem_cons_self ..)
  exact decide_eq_true (by show w.n ≠ y.n; omega)
 have h4 := h.ne.2.1 y (mem_cons_self ..)
 have h5 : post.filter (fun f => decide (f.n ≠ y.n)) = post := by
  rw [filter_eq_self]
  intro z hz
  have := h.up
  simp only [map_append, map_cons] at this
  rw [pairwise_append, pairwise_cons, pairwise_cons] at this
  have := this.2.1.2.1 _ (mem_map.2 ⟨z, hz, rfl⟩)
  exact decide_eq_true (by omega)
 rw [h3, filter_cons, if_pos (decide_eq_true (by omega)), filter_cons, if_neg (by simp), h5]
theorem XOk.drop (h : XOk pre x (y :: post)) : XOk pre x post where
 up := by
  have := h.up
  simp only [map_append, map_cons] at this ⊢
  rw [pairwise_append, pairwise_cons, pairwise_cons] at this
  rw [pairwise_append, pairwise_cons]
  exact ⟨this.1, ⟨fun a ha => this.2.1.1 a (mem_cons_of_mem _ ha), this.2.1.2.2⟩, fun a ha b hb => this.2.2 a ha b (mem_skip hb)⟩
 lo := fun f hf => h.lo f (by
  rcases mem_append.1 hf with hf | hf
  ·exact mem_append_left _ hf
  ·rcases mem_cons.1 hf with rfl | hf
   ·simp
   ·exact mem_append_right _ (mem_cons_of_mem _ (mem_cons_of_mem _ hf)))
 good := h.good
 full := h.full
 used := by
  have := h.used
  unfold DkS.used dkX at this ⊢
  simp only [map_append, map_cons, sum_append, sum_cons] at this ⊢
  omega
 len := by have := h.len; simp only [length_append, length_cons] at this ⊢; omega
theorem XOk.cut (h : XOk pre x post) {rs : List Rec} {t : List UInt8} (hb : x.b = bytes rs ++ t) : XOk pre (Lf.file ⟨x.n, rs, rs.length⟩) post where
 up := by have := h.up; simp only [map_append, map_cons] at this ⊢; exact this
 lo := fun f hf => by
  rcases mem_append.1 hf with hf | hf
  ·exact h.lo f (mem_append_left _ hf)
  ·rcases mem_cons.1 hf with rfl | hf
   ·exact h.lo x (by simp)
   ·exact h.lo f (mem_append_right _ (mem_cons_of_mem _ hf))
 good := h.good
 full := h.full
 used := by
  have := h.used
  unfold DkS.used dkX at this ⊢
  simp only [map_append, map_cons, sum_append, sum_cons, hb, length_append, Lf.file] at this ⊢
  omega
 len := by have := h.len; simpa using this
theorem XOk.last {rs : List Rec} (h : XOk pre (Lf.file ⟨x.n, rs, rs.length⟩) []) : dkX pre (Lf.file ⟨x.n, rs, rs.length⟩) [] = dk (pre ++ [⟨x.n, rs, rs.length⟩]) := by
 unfold dkX dk
 simp only [map_append, map_cons, map_nil, flatten_append, DkS.mk.injEq, true_and]
 have h1 : (pre.map Lf.ps).flatten = [] := by
  rw [flatten_eq_nil_iff]
  intro z hz
  obtain ⟨w, hw, rfl⟩ := mem_map.1 hz
  rw [← h.full w hw]
  exact w.full_ps
 rw [h1]
 simp [Lf.ps]
end
end Go.Proofs.YtejfahjgfedliaaGreat

namespace Go.Sl
open Go List
theorem W.nilH {g : World} {P : Program} {c : Code} {Q : Exit → Act → World → Prop} {n : Nat} {L : Fm} {H : HH} (h : W g P c Q n L ([] :: H)) : W g P c Q n L H := .mk fun a w ha hw => h a w ha hw
theorem D.hp {g : World} {e : Exit} {Q : Exit → Act → World → Prop} {n : Nat} {L : Fm} {H H' : HH} (eq : H = H') (h : D g Q e n L H') : D g Q e n L H := eq ▸ h
theorem D.nilH {g : World} {e : Exit} {Q : Exit → Act → World → Prop} {n : Nat} {L : Fm} {H : HH} (h : D g Q e n L ([] :: H)) : D g Q e n L H := .mk fun a w ha hw => h a w ha hw
end Go.Sl
namespace Go.Proofs.YtejfahjgfedliaaGreat
open Go Go.Sl Go.Proofs.Tryz List
theorem lastN_take {l : List Lf} {i : Nat} {f : Lf} (h : l[i]? = some f) : lastN (l.take (i + 1)) = f.n := by
 obtain ⟨h1, h2⟩ := List.getElem?_eq_some_iff.1 h
 rw [take_succ_eq_append_getElem h1, h2, lastN_app]
theorem recs_take {l : List Lf} {i : Nat} {f : Lf} (h : l[i]? = some f) : recs (l.take (i + 1)) = recs (l.take i) ++ f.rs := by
 obtain ⟨h1, h2⟩ := List.getElem?_eq_some_iff.1 h
 rw [take_succ_eq_append_getElem h1, h2, recs_app, recs_one]
set_option maxHeartbeats 4000000 in
theorem open_ct {S : DkS} {d : Nat} {h : Hp} (hd : IsDk S d h) {pre : List Lf} {ns : List Int} (hnm : S.names = pre.map (·.n) ++ ns) (hfl : S.fs.length ≤ 64) (hrd : ∀ f ∈ pre, S.readB f.n = bytes f.rs ∧ (bytes f.rs).length ≤ 1048576) (hgd : ∀ f ∈ pre, ∀ r ∈ f.rs, r.code = 0)
  (hln : (S.names).length ≤ 64) {seg torn : Int} {S' : DkS} {out : List Rec} (hcount : 6 * (recs pre).length ≤ 1048576)
  (hend : (ns = [] ∧ seg = lastN pre ∧ torn = 0 ∧ S' = S ∧ out = outF (recs pre)) ∨
   ∃ x post rs t, S = dkX pre x post ∧ XOk pre x post ∧ x.b = bytes rs ++ t ∧ x.s = x.b.length ∧ (∀ r ∈ rs, r.code = 0) ∧ Short t ∧ t ≠ [] ∧ seg = x.n ∧ torn = (t.length + (post.map (·.b.length)).sum : Nat) ∧ S' = dk (pre ++ [⟨x.n, rs, rs.length⟩]) ∧ out = outF (recs pre ++ rs)) :
  Ct prog 45 [.pointer (some ⟨d, 0, none⟩)] [h] (fun res H' => ∃ w u h' ho, res = .tuple #[.pointer (some ⟨w, 0, none⟩), u] ∧ H' = [WBk w d seg torn, h', ho] ∧ IsDk S' d h' ∧ IsSl 108 out u ho) := by
 have hfc := files_ct hd (by omega)
 refine Ct.mk' func45 rfl rfl rfl (fun g R => ?_)
 try simp only [ca]
 simp only [na]
 repeat' (first | refine run ?_ | refine bx rfl (fun _ => ?_) | refine W.scopeF 0 rfl ?_ | fail)
 rename_i w
 refine WX.call rfl hfc rfl ?_
 rintro u _ ⟨hb, rfl, hs⟩
 have hr := hs.rs
 obtain ⟨up, uc, rfl⟩ := hr.len
 have huc : S.names.length ≤ uc := by obtain ⟨a, cc, e, le, _⟩ := id hr; cases e; exact le
 simp only [ca, na]
 try refine run ?_
 refine W.nilH ?_
 refine W.hp (H' := [[], h, hb, WBk w d (lastN (pre.take 0)) 0, R]) rfl ?_
 refine W.loop (α := Nat × Value × Hp) (fun x => x.1 ≤ pre.length ∧ IsSl 108 (outF (recs (pre.take x.1))) x.2.1 x.2.2)
  (fun x => [(0, .pointer (some ⟨d, 0, none⟩)), (4, .pointer (some ⟨w, 0, none⟩)), (5, x.2.1), (6, .slice up S.names.length uc), (8, .int .i64 (x.1 : Int))])
  (fun x => [x.2.2, WBk w d (lastN (pre.take x.1)) 0, h, hb, R]) (fun x => pre.length + 1 - x.1) (0, .slice none 0 0, []) ⟨Nat.zero_le _, IsSl.nil _⟩ (by repeat (first | exact Fsub.nil | refine Fsub.cons rfl ?_)) (Hsub.of_picks inferInstance) ?_
 rintro ⟨i, o, ho⟩ ⟨hi, hso⟩
 simp only [] at hi hso ⊢
 have hnl : S.names.length = pre.length + ns.length := by rw [hnm]; simp
 by_cases hC : i = pre.length ∧ ns = []
 ·obtain ⟨rfl, rfl⟩ := hC
  simp only [length_nil] at hnl
  rcases hend with ⟨-, rfl, rfl, rfl, rfl⟩ | ⟨x, post, rs, t, e, ox, -⟩
  ·rw [take_length] at hso ⊢
   try refine run ?_
   exact D.fin2 [WBk w d (lastN pre) 0, h, ho] _ rfl rfl rfl ⟨w, o, h, ho, rfl, rfl, hd, hso⟩
  ·exfalso
   subst e
   rw [ox.names] at hnm
   simp at hnm
 ·obtain ⟨n, rs, t, hnI, hrdI, hbl, hgr, hcase⟩ : ∃ n rs t, S.names[i]? = some n ∧ S.readB n = bytes rs ++ t ∧ (bytes rs ++ t).length ≤ 1048576 ∧ (∀ r ∈ rs, r.code = 0) ∧
    ((t = [] ∧ ∃ f, pre[i]? = some f ∧ f.n = n ∧ f.rs = rs) ∨ (i = pre.length ∧ ∃ x post, S = dkX pre x post ∧ XOk pre x post ∧ x.b = bytes rs ++ t ∧ x.s = x.b.length ∧ Short t ∧ t ≠ [] ∧ n = x.n ∧ seg = x.n ∧ torn = (t.length + (post.map (·.b.length)).sum : Nat) ∧ S' = dk (pre ++ [⟨x.n, rs, rs.length⟩]) ∧ out = outF (recs pre ++ rs))) := by
   by_cases hlt : i < pre.length
   ·obtain ⟨f, hf⟩ : ∃ f, pre[i]? = some f := ⟨_, List.getElem?_eq_getElem hlt⟩
    have hm := mem_of_getElem? hf
    refine ⟨f.n, f.rs, [], ?_, by rw [append_nil]; exact (hrd f hm).1, by rw [append_nil]; exact (hrd f hm).2, hgd f hm, .inl ⟨rfl, f, hf, rfl, rfl⟩⟩
    rw [hnm, List.getElem?_append_left (by simpa using hlt), List.getElem?_map, hf]; rfl
   ·obtain rfl : i = pre.length := by omega
    rcases hend with ⟨e, -⟩ | ⟨x, post, rs, t, e1, e2, e3, e4, e5, e6, e7, e8, e9, e10, e11⟩
    ·exact absurd ⟨rfl, e⟩ hC
    ·have hnx := e2.names
     rw [← e1, hnm] at hnx
     have hns := append_cancel_left hnx
     have hrb : S.readB x.n = x.b := by unfold DkS.readB; rw [e1, e2.find]
     have hub : x.b.length ≤ 1048576 := by
      have := e2.used
      unfold DkS.used dkX at this
      simp only [map_append, map_cons, sum_append, sum_cons] at this
      omega
     refine ⟨x.n, rs, t, ?_, by rw [hrb, e3], by rw [← e3]; exact hub, e5, .inr ⟨rfl, x, post, e1, e2, e3, e4, e6, e7, rfl, e8, e9, e10, e11⟩⟩
     rw [hnm, hns, List.getElem?_append_right (by simp)]; simp
  have hrl : 6 * rs.length ≤ 1048576 := by
   have := bytes_count hgr
   rw [length_append] at hbl; omega
  have hrt : (recs (pre.take i)).length ≤ (recs pre).length := by
   have := congrArg (fun l => (recs l).length) (take_append_drop i pre)
   simp only [recs_app, length_append] at this; omega
  have hrc := read_ct hd n (by rw [hrdI]; omega)
  rw [hrdI] at hrc
  have hil : i < S.names.length := (List.getElem?_eq_some_iff.1 hnI).1
  try refine run ?_
  refine WX.call rfl hrc rfl ?_
  rintro _ _ ⟨ub, hbb, rfl, rfl, hsb⟩
  have hrb := hsb.rs
  obtain ⟨bp, bc, rfl⟩ := hrb.len
  have hbc : (bytes rs ++ t).length ≤ bc := by obtain ⟨a, cc, e, le, _⟩ := id hrb; cases e; exact le
  simp only [ca, na]
  try refine run ?_
  refine W.loop (α := Nat × Value × Hp) (fun x => x.1 ≤ rs.length ∧ IsSl 108 (outF (recs (pre.take i) ++ rs.take x.1)) x.2.1 x.2.2)
   (fun x => [(0, .pointer (some ⟨d, 0, none⟩)), (4, .pointer (some ⟨w, 0, none⟩)), (5, x.2.1), (6, .slice up S.names.length uc), (7, .slice bp (bytes rs ++ t).length bc), (8, .int .i64 (i : Int)), (9, .int .i64 ((bytes (rs.take x.1)).length : Int))])
   (fun x => [h, hbb, x.2.2, WBk w d n 0, hb, R]) (fun x => rs.length + 1 - x.1) (0, o, ho) ⟨Nat.zero_le _, by simpa using hso⟩ (by repeat (first | exact Fsub.nil | refine Fsub.cons rfl ?_)) (Hsub.of_picks inferInstance) ?_
  rintro ⟨j, o1, ho1⟩ ⟨hj, hso1⟩
  simp only [] at hj hso1 ⊢
  have hcl : (bytes rs ++ t).length = (bytes rs).length + t.length := length_append
  have hbt := bytes_take_le rs j
  by_cases hlt : j < rs.length
  ·obtain ⟨r, hrj⟩ : ∃ r, rs[j]? = some r := ⟨_, List.getElem?_eq_getElem hlt⟩
   have hrc0 := hgr r (mem_of_getElem? hrj)
   have hgd1 := Rec.good hrc0
   have hle := hgd1.fr_le
   have htk : rs.take (j + 1) = rs.take j ++ [r] := by rw [take_succ_eq_append_getElem hlt, (List.getElem?_eq_some_iff.1 hrj).2]
   have hdj : rs.drop j = r :: rs.drop (j + 1) := by rw [drop_eq_getElem_cons hlt, (List.getElem?_eq_some_iff.1 hrj).2]
   have hat : (bytes (rs.take (j + 1))).length = (bytes (rs.take j)).length + r.fr.length := by rw [htk, bytes_app, length_append]; simp [bytes]
   have hxs : (bytes rs ++ t).drop (bytes (rs.take j)).length = r.fr ++ (bytes (rs.drop (j + 1)) ++ t) := by
    rw [← bytes_take_drop rs j, append_assoc, drop_left, hdj, bytes_cons, append_assoc]
   have hxl : (bytes rs ++ t).length = (bytes (rs.take j)).length + (r.fr.length + (bytes (rs.drop (j + 1)) ++ t).length) := by
    have := congrArg List.length hxs
    simp only [length_drop, length_append] at this ⊢
    omega
   have hcut := hrb.cut (m := 1) (lo := (bytes (rs.take j)).length) (hi := (bytes rs ++ t).length) (mx := bc) rfl (by omega) (Nat.le_refl _) hbc
   rw [take_of_length_le (by rw [length_drop]; omega)] at hcut
   have hread := read_ok hgd1 hrc0 hxs hcut (by rw [length_drop]; omega)
   try refine run ?_
   refine I.sl ?_
   refine WX.cutFrom (lo := (bytes (rs.take j)).length) rfl rfl (by omega) hbc rfl ?_
   refine WX.callQ rfl hread rfl ?_
   have hoc := outF_len (recs (pre.take i) ++ rs.take j)
   rw [length_append, length_take] at hoc
   by_cases hk3 : r.k = 3
   ·repeat' (first | refine run ?_ | refine al (fun _ => ?_) | fail)
    refine D.as 9 (.int .i64 ((bytes (rs.take (j + 1))).length : Int)) rfl (by rw [hat]; rfl) ?_
    refine D.nilH ?_
    exact D.rd (j + 1, .slice none 0 0, []) ⟨by simp only []; omega, by simp only []; rw [htk, ← append_assoc, outF_snoc, if_pos hk3]; exact IsSl.nil _⟩ (by simp only []; omega)
   ·repeat' (first | refine run ?_ | refine al (fun _ => ?_) | fail)
    refine I.bs ?_
    refine WX.lit (ys := [r]) rfl rfl rfl rfl rfl rfl (by decide) rfl (fun v1 h1 hs1 => ?_)
    refine WX.app rfl rfl hso1 hs1.rs rfl rfl (by decide) (by simp only [length_cons, length_nil, length_append] at hoc ⊢; omega) rfl (fun v2 h2 hs2 => ?_)
    try refine run ?_
    refine D.as 9 (.int .i64 ((bytes (rs.take (j + 1))).length : Int)) rfl (by rw [hat]; rfl) ?_
    exact D.rd (j + 1, v2, h2) ⟨by simp only []; omega, by simp only []; rw [htk, ← append_assoc, outF_snoc, if_neg hk3]; exact hs2⟩ (by simp only []; omega)
  ·obtain rfl : j = rs.length := by omega
   rw [take_length] at hso1 hbt ⊢
   rcases hcase with ⟨rfl, f, hf, rfl, rfl⟩ | ⟨rfl, x, post, rfl, ox, hxb, hxs, hsh, htn, rfl, rfl, rfl, rfl, rfl⟩
   ·simp only [length_nil, Nat.add_zero] at hcl
    have hip := (List.getElem?_eq_some_iff.1 hf).1
    try refine run ?_
    rw [← recs_take hf] at hso1
    rw [← lastN_take hf]
    exact D.rd (i + 1, o1, ho1) ⟨by simp only []; omega, hso1⟩ (by simp only []; omega)
   ·obtain ⟨r, k, hrc0, hk, rfl⟩ := hsh
    have hgd1 := Rec.good hrc0
    have hle := hgd1.fr_le
    have htl : 0 < (r.fr.take k).length := length_pos_iff.2 htn
    have hcut := hrb.cut (m := 1) (lo := (bytes rs).length) (hi := (bytes rs ++ r.fr.take k).length) (mx := bc) rfl (by omega) (Nat.le_refl _) hbc
    rw [take_of_length_le (by rw [length_drop]; omega), drop_left] at hcut
    have hread := read_short hgd1 hk rfl htn hcut
    try refine run ?_
    refine I.sl ?_
    refine WX.cutFrom (lo := (bytes rs).length) rfl rfl (by omega) hbc rfl ?_
    refine WX.callQ rfl hread rfl ?_
    repeat' (first | refine run ?_ | refine al (fun _ => ?_) | fail)
    have oxc := ox.cut hxb
    have htc := trunc_ct hd ox.find hxs (n := (bytes rs).length) (by rw [hxb, length_append]; omega) (by rw [hxb]; omega) rfl
    rw [ox.trunc hxb] at htc
    refine WX.call rfl htc rfl ?_
    rintro _ _ ⟨y0, rfl, rfl, hd0⟩
    simp only [ca, na]
    have hnx := ox.names
    have hnxl : (dkX pre x post).names.length = pre.length + 1 + post.length := by rw [hnx]; simp; omega
    have hcn := hr.cut (m := 1) (lo := pre.length + 1) (hi := (dkX pre x post).names.length) (mx := uc) rfl (by omega) (Nat.le_refl _) huc
    have hdn : (dkX pre x post).names.drop (pre.length + 1) = post.map (·.n) := by
     rw [hnx, ← drop_drop, show pre.length = (pre.map (·.n)).length from (length_map _).symm, drop_left]; rfl
    rw [take_of_length_le (by rw [length_drop]; omega), hdn] at hcn
    have hpl : (post.map (·.n)).length = post.length := length_map _
    have hus := ox.used
    unfold DkS.used dkX at hus
    simp only [map_append, map_cons, sum_append, sum_cons, hxb, length_append] at hus
    try refine run ?_
    refine WX.as 84 (.int .i64 ((pre.length + 1 : Nat) : Int)) rfl rfl ?_
    refine I.sl ?_
    refine WX.cutFrom (lo := pre.length + 1) rfl rfl (by omega) huc rfl ?_
    generalize slCut (.slice up (dkX pre x post).names.length uc) 1 (pre.length + 1) (dkX pre x post).names.length uc = z at hcn ⊢
    try refine run ?_
    have e0 : (((bytes rs ++ r.fr.take k).length : Int) - ((bytes rs).length : Int)) = (((r.fr.take k).length + ((post.take 0).map (·.b.length)).sum : Nat) : Int) := by
     simp only [length_append, take_zero, map_nil, sum_nil]; omega
    rw [e0]
    refine W.loop (α := Nat × Hp) (fun x1 => x1.1 ≤ post.length ∧ IsDk (dkX pre (Lf.file ⟨x.n, rs, rs.length⟩) (post.drop x1.1)) d x1.2 ∧ XOk pre (Lf.file ⟨x.n, rs, rs.length⟩) (post.drop x1.1))
     (fun x1 => [(0, .pointer (some ⟨d, 0, none⟩)), (4, .pointer (some ⟨w, 0, none⟩)), (5, o1), (85, z), (86, .int .i64 ((post.map (·.n)).length : Int)), (87, .int .i64 (x1.1 : Int))])
     (fun x1 => [x1.2, ho1, WBk w d x.n (((r.fr.take k).length + ((post.take x1.1).map (·.b.length)).sum : Nat) : Int), hb, R]) (fun x1 => post.length - x1.1) (0, y0) ⟨Nat.zero_le _, hd0, oxc⟩ (by repeat (first | exact Fsub.nil | refine Fsub.cons rfl ?_)) (Hsub.of_picks inferInstance) ?_
    rintro ⟨q, y1⟩ ⟨hq, hdq, oq⟩
    simp only [] at hq hdq oq ⊢
    by_cases hlt : q < post.length
    ·obtain ⟨y, hy⟩ : ∃ y, post[q]? = some y := ⟨_, List.getElem?_eq_getElem hlt⟩
     have hyn : (post.map (·.n))[q]? = some y.n := by rw [List.getElem?_map, hy]; rfl
     have hdr : post.drop q = y :: post.drop (q + 1) := by rw [drop_eq_getElem_cons hlt, (List.getElem?_eq_some_iff.1 hy).2]
     have htk : ((post.take (q + 1)).map (·.b.length)).sum = ((post.take q).map (·.b.length)).sum + y.b.length := by
      rw [take_succ_eq_append_getElem hlt, (List.getElem?_eq_some_iff.1 hy).2]; simp
     have hle2 : ((post.take (q + 1)).map (·.b.length)).sum ≤ (post.map (·.b.length)).sum := by
      have := congrArg (fun l => (l.map (fun f : FileP => f.b.length)).sum) (take_append_drop (q + 1) post)
      simp only [map_append, sum_append] at this; omega
     rw [hdr] at hdq oq
     have hsz := size_ct hdq y.n
     rw [oq.size] at hsz
     have hrm := dremove_ct hdq y.n (by show (0 : Nat) ≤ _; omega)
     rw [oq.remove] at hrm
     try refine run ?_
     refine W.mix (List.replicate 6 true ++ [false, true]) [WBk w d x.n (((r.fr.take k).length + ((post.take q).map (·.b.length)).sum : Nat) : Int)] Tryz.mix (by kernel_rfl) ?_
     try refine run ?_
     refine WX.callQ rfl hsz rfl ?_
     try refine run ?_
     refine WX.call rfl hrm rfl ?_
     rintro _ _ ⟨y2, rfl, rfl, hd2⟩
     simp only [ca, na]
     try refine run ?_
     have e1 : ((((r.fr.take k).length + ((post.take q).map (·.b.length)).sum : Nat) : Int) + (y.b.length : Int)) = (((r.fr.take k).length + ((post.take (q + 1)).map (·.b.length)).sum : Nat) : Int) := by rw [htk]; omega
     rw [e1]
     exact D.rd (q + 1, y2) ⟨by simp only []; omega, hd2, oq.drop⟩ (by simp only []; omega)
    ·obtain rfl : q = post.length := by omega
     rw [drop_length] at hdq oq
     rw [take_length]
     rw [oq.last] at hdq
     try refine run ?_
     exact D.fin2 [WBk w d x.n (((r.fr.take k).length + (post.map (·.b.length)).sum : Nat) : Int), y1, ho1] _ rfl rfl rfl ⟨w, o1, y1, ho1, rfl, rfl, hdq, by rw [← take_length (l := pre)]; exact hso1⟩
theorem open_whole {l : List Lf} (ok : LOk l) {d : Nat} {h : Hp} (hd : IsDk (dk l) d h) :
  Ct prog 45 [.pointer (some ⟨d, 0, none⟩)] [h] (fun res H' => ∃ w u h' ho, res = .tuple #[.pointer (some ⟨w, 0, none⟩), u] ∧ H' = [WBk w d (lastN l) 0, h', ho] ∧ IsDk (dk l) d h' ∧ IsSl 108 (outF (recs l)) u ho) := by
 have hc := recs_count ok.good
 have hu := ok.used
 refine open_ct (pre := l) (ns := []) hd (by rw [dk_names ok, append_nil]) (by rw [ok.fs_len]; exact ok.len) (fun f hf => ?_) ok.good (by rw [dk_names ok, length_map]; exact ok.len) (by omega) (.inl ⟨rfl, rfl, rfl, rfl, rfl⟩)
 obtain ⟨a, b, rfl⟩ := append_of_mem hf
 refine ⟨by unfold DkS.readB; rw [dk_find ok.toLUp]; rfl, ?_⟩
 rw [dk_used] at hu
 simp only [map_append, map_cons, sum_append, sum_cons] at hu
 omega
theorem open_torn {pre : List Lf} {x : FileP} {post : List FileP} (ox : XOk pre x post) {rs : List Rec} {t : List UInt8} (hb : x.b = bytes rs ++ t) (hs : x.s = x.b.length) (hg : ∀ r ∈ rs, r.code = 0) (hsh : Short t) (ht : t ≠ []) {d : Nat} {h : Hp} (hd : IsDk (dkX pre x post) d h) :
  Ct prog 45 [.pointer (some ⟨d, 0, none⟩)] [h] (fun res H' => ∃ w u h' ho, res = .tuple #[.pointer (some ⟨w, 0, none⟩), u] ∧ H' = [WBk w d x.n ((t.length + (post.map (·.b.length)).sum : Nat) : Int), h', ho] ∧ IsDk (dk (pre ++ [⟨x.n, rs, rs.length⟩])) d h' ∧ IsSl 108 (outF (recs pre ++ rs)) u ho) := by
 have hu := ox.used
 have hl := ox.len
 have hc := recs_count (l := pre) ox.good
 rw [dk_used] at hc
 have hup : (pre.map (fun f => (bytes f.rs).length)).sum ≤ 1048576 := by
  unfold DkS.used dkX at hu
  simp only [map_append, map_cons, sum_append, sum_cons, map_map] at hu
  have : (pre.map ((fun x => x.b.length) ∘ Lf.file)) = pre.map (fun f => (bytes f.rs).length) := rfl
  rw [this] at hu
  omega
 have hlen : (pre.map Lf.file ++ x :: post).length ≤ 64 := hl
 have hnl : (dkX pre x post).names.length ≤ 64 := by
  rw [ox.names]
  simp only [length_append, length_map, length_cons] at hl ⊢
  omega
 refine open_ct (pre := pre) (ns := x.n :: post.map (·.n)) hd ox.names hl (fun f hf => ?_) ox.good hnl (by omega) (.inr ⟨x, post, rs, t, rfl, ox, hb, hs, hg, hsh, ht, rfl, rfl, rfl, rfl⟩)
 obtain ⟨a, b, e⟩ := append_of_mem hf
 refine ⟨by unfold DkS.readB; rw [ox.findP e]; rfl, ?_⟩
 have := sum_mem_le (mem_map.2 ⟨f, hf, rfl⟩ : (bytes f.rs).length ∈ pre.map (fun f => (bytes f.rs).length))
 omega
end Go.Proofs.YtejfahjgfedliaaGreat

namespace Go.Proofs.YtejfahjgfedliaaGreat
open Go Go.Sl List
def crashL : List Lf → Nat → List FileP
 | [], _ => []
 | f :: t, q => ⟨f.n, (bytes f.rs).take ((bytes (f.rs.take f.k)).length + min q (bytes (f.rs.drop f.k)).length), (bytes (f.rs.take f.k)).length + min q (bytes (f.rs.drop f.k)).length⟩ :: crashL t (q - min q (bytes (f.rs.drop f.k)).length)
theorem crQ_eq {keep : Int} {m : Nat} {n : Int} : crQ keep ⟨n, (m : Int)⟩ = (min keep.toNat m : Nat) := by
 unfold crQ
 simp only []
 split <;> split at * <;> omega
theorem crFold {n : Int} {a b : List FileP} (ha : ∀ x ∈ a, x.n ≠ n) (hb : ∀ x ∈ b, x.n ≠ n) {bs : List UInt8} : ∀ (ms : List Nat) (s : Nat) (keep lost : Int),
  ∃ lost', (ms.map fun (m : Nat) => (⟨n, (m : Int)⟩ : Pc)).foldl crStep (a ++ ⟨n, bs, s⟩ :: b, keep, lost) = (a ++ ⟨n, bs, s + min keep.toNat ms.sum⟩ :: b, keep - (min keep.toNat ms.sum : Nat), lost') := by
 intro ms
 induction ms with
 | nil => intro s keep lost; exact ⟨lost, by simp⟩
 | cons m t ih =>
  intro s keep lost
  have h1 : ∀ l : List FileP, (∀ x ∈ l, x.n ≠ n) → (l.map fun f => if f.n = n then { f with s := f.s + (crQ keep ⟨n, (m : Int)⟩).toNat } else f) = l := by
   intro l hl
   have : (l.map fun f => if f.n = n then { f with s := f.s + (crQ keep ⟨n, (m : Int)⟩).toNat } else f) = l.map id := by
    apply map_congr_left
    intro x hx
    exact if_neg (hl x hx)
   rw [this, map_id]
  have h2 : crStep (a ++ ⟨n, bs, s⟩ :: b, keep, lost) ⟨n, (m : Int)⟩ = (a ++ ⟨n, bs, s + min keep.toNat m⟩ :: b, keep - (min keep.toNat m : Nat), lost + ((m : Int) - (min keep.toNat m : Nat))) := by
   unfold crStep
   simp only [map_append, map_cons, h1 a ha, h1 b hb, if_true]
   rw [crQ_eq]
   simp
  rw [map_cons, foldl_cons, h2]
  obtain ⟨lost', h3⟩ := ih (s + min keep.toNat m) (keep - (min keep.toNat m : Nat)) (lost + ((m : Int) - (min keep.toNat m : Nat)))
  have h4 : min keep.toNat m + min (keep - (min keep.toNat m : Nat)).toNat t.sum = min keep.toNat (m + t.sum) := by omega
  refine ⟨lost', ?_⟩
  rw [h3, sum_cons, Nat.add_assoc, h4]
  congr 2
  omega
theorem ps_eq (f : Lf) : f.ps = ((f.rs.drop f.k).map fun r => r.fr.length).map fun (m : Nat) => (⟨f.n, (m : Int)⟩ : Pc) := by
 unfold Lf.ps; rw [map_map]; rfl
theorem crFiles : ∀ (l : List Lf) (a : List FileP) (keep lost : Int), (l.map (·.n)).Pairwise (· ≠ ·) → (∀ x ∈ a, ∀ f ∈ l, x.n ≠ f.n) →
  ∃ fs k' lost', ((l.map Lf.ps).flatten).foldl crStep (a ++ l.map Lf.file, keep, lost) = (a ++ fs, k', lost') ∧ fs.map (fun f => { f with b := f.b.take f.s }) = crashL l keep.toNat := by
 intro l
 induction l with
 | nil => intro a keep lost _ _; exact ⟨[], keep, lost, by simp, rfl⟩
 | cons f t ih =>
  intro a keep lost hp ha
  rw [map_cons, pairwise_cons] at hp
  have hb : ∀ x ∈ t.map Lf.file, x.n ≠ f.n := by
   intro x hx
   obtain ⟨y, hy, rfl⟩ := mem_map.1 hx
   exact fun e => hp.1 y.n (mem_map.2 ⟨y, hy, rfl⟩) e.symm
  obtain ⟨l1, h1⟩ := crFold (n := f.n) (a := a) (b := t.map Lf.file) (fun x hx => ha x hx f (mem_cons_self ..)) hb (bs := bytes f.rs) ((f.rs.drop f.k).map fun r => r.fr.length) (bytes (f.rs.take f.k)).length keep lost
  rw [← ps_eq, ← bytes_len] at h1
  have h2 : a ++ (f :: t).map Lf.file = a ++ ⟨f.n, bytes f.rs, (bytes (f.rs.take f.k)).length⟩ :: t.map Lf.file := rfl
  rw [map_cons (f := Lf.ps), flatten_cons, foldl_append, h2, h1]
  obtain ⟨fs, k', lost', h3, h4⟩ := ih (a ++ [⟨f.n, bytes f.rs, (bytes (f.rs.take f.k)).length + min keep.toNat (bytes (f.rs.drop f.k)).length⟩]) (keep - (min keep.toNat (bytes (f.rs.drop f.k)).length : Nat)) l1 hp.2 (fun x hx g hg => by
   rcases mem_append.1 hx with hx | hx
   ·exact ha x hx g (mem_cons_of_mem _ hg)
   ·rw [mem_singleton.1 hx]; exact hp.1 g.n (mem_map.2 ⟨g, hg, rfl⟩))
  simp only [append_assoc, singleton_append] at h3
  refine ⟨_ :: fs, k', lost', h3, ?_⟩
  rw [map_cons, h4, show (keep - (min keep.toNat (bytes (f.rs.drop f.k)).length : Nat)).toNat = keep.toNat - min keep.toNat (bytes (f.rs.drop f.k)).length from by omega]
  rfl
theorem dk_crash {l : List Lf} (ok : LOk l) (keep : Int) : (dk l).crash keep = ⟨crashL l keep.toNat, []⟩ := by
 obtain ⟨fs, k', lost', h1, h2⟩ := crFiles l [] keep 0 (pairwise_map.2 (ok.up.imp fun h => by omega)) (by simp)
 unfold DkS.crash DkS.crF
 rw [show (dk l).loose = (l.map Lf.ps).flatten from rfl, show (dk l).fs = [] ++ l.map Lf.file from rfl, h1]
 simp only [na]
 rw [h2]
def frN : List Rec → Nat → Nat
 | [], _ => 0
 | r :: u, q => if q < r.fr.length then 0 else frN u (q - r.fr.length) + 1
def keptN : List Lf → Nat → Nat
 | [], _ => 0
 | f :: t, q => if (bytes (f.rs.drop f.k)).length ≤ q then f.rs.length + keptN t (q - (bytes (f.rs.drop f.k)).length) else f.k + frN (f.rs.drop f.k) q
def looseB (l : List Lf) : Nat := (l.map fun f => (bytes (f.rs.drop f.k)).length).sum
theorem take_frames : ∀ (rs : List Rec) (q : Nat), (∀ r ∈ rs, r.code = 0) → q ≤ (bytes rs).length → ∃ j t, j ≤ rs.length ∧ (bytes rs).take q = bytes (rs.take j) ++ t ∧ (t = [] ∨ (Short t ∧ t ≠ [])) ∧ j = frN rs q := by
 intro rs
 induction rs with
 | nil => intro q _ hq; exact ⟨0, [], Nat.le_refl _, by simp [bytes], .inl rfl, rfl⟩
 | cons r u ih =>
  intro q hg hq
  by_cases h : q < r.fr.length
  ·refine ⟨0, r.fr.take q, Nat.zero_le _, ?_, ?_, (if_pos h).symm⟩
   ·rw [bytes_cons, take_append_of_le_length (by omega)]; simp [bytes]
   ·by_cases h0 : q = 0
    ·left; rw [h0]; rfl
    ·right
     refine ⟨⟨r, q, hg r (mem_cons_self ..), h, rfl⟩, fun e => ?_⟩
     have h5 : min q r.fr.length = 0 := by
      have := congrArg List.length e
      rwa [length_take, length_nil] at this
     omega
  ·rw [bytes_cons, length_append] at hq
   obtain ⟨j, t, h1, h2, h3, h4⟩ := ih (q - r.fr.length) (fun x hx => hg x (mem_cons_of_mem _ hx)) (by omega)
   refine ⟨j + 1, t, by simpa using h1, ?_, h3, by rw [h4]; exact (if_neg h).symm⟩
   rw [take_succ_cons, bytes_cons, bytes_cons, take_append, take_of_length_le (by omega), h2, append_assoc]
inductive Bel : List Lf → List Lf → Prop
 | nil : Bel [] []
 | cons {a b : List Lf} {f : Lf} {m : Nat} (h : Bel a b) : Bel (⟨f.n, f.rs.take m, (f.rs.take m).length⟩ :: a) (f :: b)
theorem Bel.names {a b : List Lf} (h : Bel a b) : a.map (·.n) = b.map (·.n) := by
 induction h with
 | nil => rfl
 | cons h ih => simp only [map_cons, ih]
theorem Bel.full {a b : List Lf} (h : Bel a b) : ∀ f ∈ a, f.full = f := by
 induction h with
 | nil => simp
 | cons h ih =>
  intro f hf
  rcases mem_cons.1 hf with rfl | hf
  ·rfl
  ·exact ih f hf
theorem Bel.good {a b : List Lf} (h : Bel a b) (hg : ∀ f ∈ b, ∀ r ∈ f.rs, r.code = 0) : ∀ f ∈ a, ∀ r ∈ f.rs, r.code = 0 := by
 induction h with
 | nil => simp
 | cons h ih =>
  intro f hf r hr
  rcases mem_cons.1 hf with rfl | hf
  ·exact hg _ (mem_cons_self ..) r (mem_of_mem_take hr)
  ·exact ih (fun x hx => hg x (mem_cons_of_mem _ hx)) f hf r hr
theorem Bel.used {a b : List Lf} (h : Bel a b) : (a.map fun f => (bytes f.rs).length).sum ≤ (b.map fun f => (bytes f.rs).length).sum := by
 induction h with
 | nil => simp
 | @cons a b f m h ih =>
  have := bytes_take_le f.rs m
  simp only [map_cons, sum_cons]; omega
theorem Bel.len {a b : List Lf} (h : Bel a b) : a.length = b.length := by have := congrArg List.length h.names; simpa using this
theorem Bel.ok {a b : List Lf} (h : Bel a b) (ok : LOk b) : LOk a where
 up := by
  have h1 := pairwise_map (f := fun x : Lf => x.n) (R := fun x y : Int => x < y) (l := a)
  rw [h.names] at h1
  exact h1.1 (pairwise_map.2 ok.up)
 good := h.good ok.good
 k := fun f hf => by rw [← h.full f hf]; exact Nat.le_refl _
 tail := by
  refine pairwise_of_forall_mem_list fun x hx y hy hlt => ?_
  rw [← h.full x hx] at hlt
  exact absurd hlt (Nat.lt_irrefl _)
 lo := fun f hf => by
  have : f.n ∈ b.map (·.n) := by rw [← h.names]; exact mem_map.2 ⟨f, hf, rfl⟩
  obtain ⟨g, hg, e⟩ := mem_map.1 this
  rw [← e]; exact ok.lo g hg
 hi := fun f hf => by
  have : f.n ∈ b.map (·.n) := by rw [← h.names]; exact mem_map.2 ⟨f, hf, rfl⟩
  obtain ⟨g, hg, e⟩ := mem_map.1 this
  rw [← e]; exact ok.hi g hg
 used := by have := ok.used; rw [dk_used] at this ⊢; have := h.used; omega
 len := by rw [h.len]; exact ok.len
theorem Bel.lastN {a b : List Lf} (h : Bel a b) : Go.Proofs.YtejfahjgfedliaaGreat.lastN a = Go.Proofs.YtejfahjgfedliaaGreat.lastN b := by
 have h1 : ∀ l : List Lf, Go.Proofs.YtejfahjgfedliaaGreat.lastN l = ((l.map (·.n)).getLast?).getD 0 := by
  intro l
  rcases eq_nil_or_concat l with rfl | ⟨p, f, rfl⟩
  ·rfl
  ·rw [concat_eq_append, lastN_app, map_append, map_cons, map_nil, List.getLast?_concat]; rfl
 rw [h1, h1, h.names]
theorem Bel.zero (b : List Lf) : Bel (b.map fun f => ⟨f.n, [], 0⟩) b := by
 induction b with
 | nil => exact .nil
 | cons f t ih => exact Bel.cons (f := f) (m := 0) ih
theorem crash_zero : ∀ (l : List Lf), (∀ f ∈ l, f.k = 0) → crashL l 0 = (l.map fun f => (⟨f.n, [], 0⟩ : Lf)).map Lf.file := by
 intro l
 induction l with
 | nil => intro _; rfl
 | cons f t ih =>
  intro h
  have hk := h f (mem_cons_self ..)
  unfold crashL
  rw [hk]
  have h1 : bytes (f.rs.take 0) = [] := rfl
  rw [h1]
  simp only [length_nil, Nat.zero_min, Nat.zero_add, Nat.zero_sub, take_zero, map_cons]
  rw [ih fun x hx => h x (mem_cons_of_mem _ hx)]
  rfl
theorem crash_splitK : ∀ (l : List Lf) (q : Nat), (∀ f ∈ l, ∀ r ∈ f.rs, r.code = 0) → (∀ f ∈ l, f.k ≤ f.rs.length) → (l.Pairwise fun a b => a.k < a.rs.length → b.k = 0) →
  (∃ l' m, crashL l q = l'.map Lf.file ∧ Bel l' l ∧ sumK l ≤ m ∧ m ≤ (recs l).length ∧ recs l' = (recs l).take m ∧ m = keptN l q) ∨
  (∃ a f b pre j t m, l = a ++ f :: b ∧ Bel pre a ∧ crashL l q = pre.map Lf.file ++ ⟨f.n, bytes (f.rs.take j) ++ t, (bytes (f.rs.take j) ++ t).length⟩ :: b.map (fun g => ⟨g.n, [], 0⟩) ∧ Short t ∧ t ≠ [] ∧ (bytes (f.rs.take j) ++ t).length ≤ (bytes f.rs).length ∧
   sumK l ≤ m ∧ m ≤ (recs l).length ∧ recs pre ++ f.rs.take j = (recs l).take m ∧ m = keptN l q ∧ q < looseB l) := by
 intro l
 induction l with
 | nil => intro q _ _ _; exact .inl ⟨[], 0, rfl, .nil, Nat.le_refl _, Nat.le_refl _, rfl, rfl⟩
 | cons f t ih =>
  intro q hg hk ht
  have hgf := hg f (mem_cons_self ..)
  have hkf := hk f (mem_cons_self ..)
  rw [pairwise_cons] at ht
  have hR : recs (f :: t) = f.rs ++ recs t := by unfold recs; simp
  have hS : sumK (f :: t) = f.k + sumK t := by unfold sumK; simp
  have hbl := congrArg List.length (bytes_take_drop f.rs f.k)
  rw [length_append] at hbl
  have hlb : looseB (f :: t) = (bytes (f.rs.drop f.k)).length + looseB t := by unfold looseB; simp
  by_cases hq : (bytes (f.rs.drop f.k)).length ≤ q
  ·have hc : crashL (f :: t) q = Lf.file f.full :: crashL t (q - (bytes (f.rs.drop f.k)).length) := by
    conv => lhs; unfold crashL
    rw [Nat.min_eq_right hq, hbl, take_length]
    simp [Lf.file, Lf.full]
   have hbel : ∀ {x : List Lf}, Bel x t → Bel (f.full :: x) (f :: t) := fun h => by
    have := Bel.cons (f := f) (m := f.rs.length) h
    rw [take_length] at this
    exact this
   rcases ih (q - (bytes (f.rs.drop f.k)).length) (fun x hx => hg x (mem_cons_of_mem _ hx)) (fun x hx => hk x (mem_cons_of_mem _ hx)) ht.2 with ⟨l', m, h1, h2, h3, h4, h5, h6⟩ | ⟨a, g, b, pre, j, u, m, h1, h2, h3, h4, h5, h7, h8, h9, h10, h11, h12⟩
   ·refine .inl ⟨f.full :: l', f.rs.length + m, by rw [hc, h1]; rfl, hbel h2, by rw [hS]; omega, by rw [hR, length_append]; omega, ?_, by rw [h6]; exact (if_pos hq).symm⟩
    rw [hR, take_length_add_append, ← h5]
    unfold recs; simp [Lf.full]
   ·refine .inr ⟨f :: a, g, b, f.full :: pre, j, u, f.rs.length + m, by rw [h1]; rfl, ?_, by rw [hc, h3]; rfl, h4, h5, h7, by rw [hS]; omega, by rw [hR, length_append]; omega, ?_, by rw [h11]; exact (if_pos hq).symm, by rw [hlb]; omega⟩
    ·have := Bel.cons (f := f) (m := f.rs.length) h2
     rw [take_length] at this
     exact this
    ·rw [hR, take_length_add_append, ← h10]
     unfold recs; simp [Lf.full]
  ·have hqn := hq
   have hq : q < (bytes (f.rs.drop f.k)).length := by omega
   have hlt : f.k < f.rs.length := by
    rcases Nat.lt_or_ge f.k f.rs.length with h | h
    ·exact h
    ·rw [drop_eq_nil_of_le h] at hq; simp [bytes] at hq
   have hz : ∀ g ∈ t, g.k = 0 := fun g hg => ht.1 g hg hlt
   have hS0 : sumK t = 0 := by
    unfold sumK
    clear hR hS hlb ih ht hk hg
    induction t with
    | nil => rfl
    | cons g t ih =>
     rw [map_cons, sum_cons, hz g (mem_cons_self ..), ih fun x hx => hz x (mem_cons_of_mem _ hx)]
   obtain ⟨j, u, h1, h2, h3, hj⟩ := take_frames (f.rs.drop f.k) q (fun r hr => hgf r (mem_of_mem_drop hr)) (by omega)
   rw [length_drop] at h1
   have htk : (bytes f.rs).take ((bytes (f.rs.take f.k)).length + q) = bytes (f.rs.take (f.k + j)) ++ u := by
    rw [← bytes_take_drop f.rs f.k, take_length_add_append, h2, ← append_assoc, ← bytes_app, take_add]
   have hlen : (bytes (f.rs.take (f.k + j)) ++ u).length = (bytes (f.rs.take f.k)).length + q := by
    rw [← htk, length_take]; omega
   have hc : crashL (f :: t) q = ⟨f.n, bytes (f.rs.take (f.k + j)) ++ u, (bytes (f.rs.take (f.k + j)) ++ u).length⟩ :: (t.map fun g => (⟨g.n, [], 0⟩ : Lf)).map Lf.file := by
    conv => lhs; unfold crashL
    rw [Nat.min_eq_left (by omega), htk, Nat.sub_self, crash_zero t hz, hlen]
   have hm : (recs (f :: t)).take (f.k + j) = f.rs.take (f.k + j) := by rw [hR, take_append_of_le_length (by omega)]
   have hm2 : f.k + j ≤ (recs (f :: t)).length := by rw [hR, length_append]; omega
   rcases h3 with rfl | ⟨h3, h4⟩
   ·refine .inl ⟨⟨f.n, f.rs.take (f.k + j), (f.rs.take (f.k + j)).length⟩ :: t.map (fun g => ⟨g.n, [], 0⟩), f.k + j, ?_, Bel.cons (Bel.zero t), by rw [hS, hS0]; omega, hm2, ?_, by rw [hj]; exact (if_neg hqn).symm⟩
    ·rw [hc]
     simp only [append_nil, map_cons, Lf.file, take_length]
    ·rw [hm]
     unfold recs
     simp only [map_cons, flatten_cons, map_map]
     have : (t.map (Lf.rs ∘ fun g => (⟨g.n, [], 0⟩ : Lf))).flatten = [] := by
      rw [flatten_eq_nil_iff]
      intro x hx
      obtain ⟨g, hg, rfl⟩ := mem_map.1 hx
      rfl
     rw [this, append_nil]
   ·refine .inr ⟨[], f, t, [], f.k + j, u, f.k + j, rfl, .nil, ?_, h3, h4, by rw [hlen]; omega, by rw [hS, hS0]; omega, hm2, by rw [hm]; rfl, by rw [hj]; exact (if_neg hqn).symm, by rw [hlb]; omega⟩
    rw [hc, map_map]; rfl
end Go.Proofs.YtejfahjgfedliaaGreat

namespace Go.Proofs.YtejfahjgfedliaaGreat
open Go Go.Sl Go.Proofs.Tryz List
theorem pn_app (k : Int) (a b : List Pc) : pn k (a ++ b) = pn k a + pn k b := by unfold pn; simp
theorem pn_ps (f : Lf) : pn f.n f.ps = ((bytes (f.rs.drop f.k)).length : Int) := by
 have h1 : f.ps.filter (fun p => decide (p.f = f.n)) = f.ps := by
  rw [filter_eq_self]
  intro p hp
  exact decide_eq_true (ps_name hp)
 have h2 : ∀ l : List Rec, ((l.map fun r => (⟨f.n, (r.fr.length : Int)⟩ : Pc)).map (·.n)).sum = ((bytes l).length : Int) := by
  intro l
  induction l with
  | nil => rfl
  | cons r t ih => rw [map_cons, map_cons, sum_cons, ih, bytes_cons, length_append]; simp
 unfold pn
 rw [h1]
 exact h2 _
theorem pn_other {n : Int} : ∀ {l : List Lf}, (∀ f ∈ l, f.n ≠ n) → pn n (l.map Lf.ps).flatten = 0 := by
 intro l
 induction l with
 | nil => intro _; rfl
 | cons f t ih =>
  intro h
  rw [map_cons, flatten_cons, pn_app, ih fun x hx => h x (mem_cons_of_mem _ hx)]
  have : f.ps.filter (fun p => decide (p.f = n)) = [] := by
   rw [filter_eq_nil_iff]
   intro p hp
   rw [ps_name hp]
   simpa using h f (mem_cons_self ..)
  unfold pn
  rw [this]; rfl
theorem dk_wf {l : List Lf} (ok : LOk l) : WfI (dk l).fs (dk l).loose := by
 refine ⟨fun p hp => ?_, fun x hx => ?_⟩
 ·obtain ⟨y, hy, hpy⟩ := mem_flatten.1 hp
  obtain ⟨f, hf, rfl⟩ := mem_map.1 hy
  have hn := ps_name hpy
  unfold Lf.ps at hpy
  obtain ⟨r, hr, rfl⟩ := mem_map.1 hpy
  exact ⟨by simp only []; omega, f.file, mem_map.2 ⟨f, hf, rfl⟩, rfl⟩
 ·obtain ⟨f, hf, rfl⟩ := mem_map.1 hx
  obtain ⟨a, b, rfl⟩ := append_of_mem hf
  have hm := ok.mid_ne
  show (((bytes (f.rs.take f.k)).length : Nat) : Int) + pn f.n ((a ++ f :: b).map Lf.ps).flatten ≤ (bytes f.rs).length
  rw [map_append, flatten_append, map_cons, flatten_cons, pn_app, pn_app, pn_other (l := a) fun x hx => by have := hm.1 x hx; omega, pn_other (l := b) fun x hx => by have := hm.2 x hx; omega, pn_ps]
  have := congrArg List.length (bytes_take_drop f.rs f.k)
  rw [length_append] at this
  omega
theorem loose_sum {l : List Lf} : ((dk l).loose.map (·.n)).sum ≤ ((dk l).used : Int) := by
 rw [dk_used]
 unfold dk
 simp only []
 induction l with
 | nil => simp
 | cons f t ih =>
  have h1 := pn_ps f
  have h2 : f.ps.filter (fun p => decide (p.f = f.n)) = f.ps := by
   rw [filter_eq_self]
   intro p hp
   exact decide_eq_true (ps_name hp)
  unfold pn at h1
  rw [h2] at h1
  have h3 := congrArg List.length (bytes_take_drop f.rs f.k)
  rw [length_append] at h3
  simp only [map_cons, flatten_cons, map_append, sum_append, sum_cons, h1]
  omega
theorem crashD_ct {l : List Lf} (ok : LOk l) {d : Nat} {h : Hp} (hd : IsDk (dk l) d h) {keep : Int} (hk1 : -9223372036854775808 ≤ keep) (hk2 : keep ≤ 9223372036854775807) :
  Ct prog 64 [.pointer (some ⟨d, 0, none⟩), .int .i64 keep] [h] (fun r H' => ∃ h', r = .int .i64 ((dk l).lost keep) ∧ H' = [h'] ∧ IsDk ⟨crashL l keep.toNat, []⟩ d h') := by
 have hu := ok.used
 have hs := loose_sum (l := l)
 rw [← dk_crash ok]
 exact crash_ct hd hk1 hk2 (dk_wf ok) (by omega) ok.loose (by omega)
theorem Bel.append {a b c d : List Lf} (h : Bel a b) (k : Bel c d) : Bel (a ++ c) (b ++ d) := by
 induction h with
 | nil => exact k
 | cons h ih => exact .cons ih
theorem crash_xok {l a b pre : List Lf} {f : Lf} {t : List UInt8} {j : Nat} (ok : LOk l) (hl : l = a ++ f :: b) (hb : Bel pre a) (hlen : (bytes (f.rs.take j) ++ t).length ≤ (bytes f.rs).length) :
  XOk pre ⟨f.n, bytes (f.rs.take j) ++ t, (bytes (f.rs.take j) ++ t).length⟩ (b.map (fun g => ⟨g.n, [], 0⟩)) ∧ LOk (pre ++ [⟨f.n, f.rs.take j, (f.rs.take j).length⟩]) := by
 subst hl
 have hnm : (pre.map Lf.file ++ ⟨f.n, bytes (f.rs.take j) ++ t, (bytes (f.rs.take j) ++ t).length⟩ :: b.map (fun g => (⟨g.n, [], 0⟩ : FileP))).map (·.n) = (a ++ f :: b).map (·.n) := by
  have h1 := hb.names
  simp only [map_append, map_cons, map_map] at h1 ⊢
  have h2 : pre.map ((fun x : FileP => x.n) ∘ Lf.file) = pre.map (·.n) := rfl
  have h3 : b.map ((fun x : FileP => x.n) ∘ fun g : Lf => (⟨g.n, [], 0⟩ : FileP)) = b.map (·.n) := rfl
  rw [h2, h3, h1]
 have hmem : ∀ x ∈ pre.map Lf.file ++ ⟨f.n, bytes (f.rs.take j) ++ t, (bytes (f.rs.take j) ++ t).length⟩ :: b.map (fun g => (⟨g.n, [], 0⟩ : FileP)), ∃ g ∈ a ++ f :: b, g.n = x.n := by
  intro x hx
  have : x.n ∈ (a ++ f :: b).map (·.n) := by rw [← hnm]; exact mem_map.2 ⟨x, hx, rfl⟩
  obtain ⟨g, hg, e⟩ := mem_map.1 this
  exact ⟨g, hg, e⟩
 have hb2 : Bel (pre ++ [⟨f.n, f.rs.take j, (f.rs.take j).length⟩]) (a ++ [f]) := hb.append (.cons .nil)
 refine ⟨⟨by rw [hnm]; exact pairwise_map.2 ok.up, fun x hx => ?_, ?_, hb.full, ?_, ?_⟩, hb2.ok (LOk.ini (post := b) (by simpa using ok))⟩
 ·obtain ⟨g, hg, e⟩ := hmem x hx
  rw [← e]
  exact ⟨ok.lo g hg, ok.hi g hg⟩
 ·exact hb.good fun g hg => ok.good g (mem_append_left _ hg)
 ·have h1 := ok.used
  have h2 := hb.used
  have h3 : ((b.map fun g : Lf => (⟨g.n, [], 0⟩ : FileP)).map (·.b.length)).sum = 0 := by
   clear hnm hmem hb2 h1 h2 ok
   induction b with
   | nil => rfl
   | cons y z ih => simpa using ih
  have h4 : ((pre.map Lf.file).map (·.b.length)).sum = (pre.map fun f => (bytes f.rs).length).sum := by rw [map_map]; rfl
  rw [dk_used] at h1
  unfold DkS.used dkX
  simp only [map_append, map_cons, sum_append, sum_cons] at h1 ⊢
  rw [h3, h4]
  omega
 ·have h1 := ok.len
  have h2 := hb.len
  simp only [length_append, length_cons, length_map] at h1 ⊢
  omega
def roomB (l : List Lf) (n : Int) : Bool := decide (0 ≤ n ∧ n ≤ 2048 ∧ l.length < 63 ∧ ((dk l).used : Int) < 1048576 - n * 512)
theorem room_ct {l : List Lf} (ok : LOk l) {d : Nat} {h : Hp} (hd : IsDk (dk l) d h) {w : Nat} {seg torn : Int} (n : Int) :
  Ct prog 80 [.pointer (some ⟨w, 0, none⟩), .int .i64 n] [WBk w d seg torn, h] (fun res H' => res = .bool (roomB l n) ∧ H' = [WBk w d seg torn, h]) := by
 have hu1 := ok.used
 have hll := ok.len
 have hfc := files_ct hd (by rw [ok.fs_len]; omega)
 rw [dk_names ok] at hfc
 have hnl : (l.map (·.n)).length = l.length := length_map _
 have huc := used_ct hd (by omega)
 refine Ct.mk' func80 rfl rfl rfl (fun g R => ?_)
 try simp only [ca]
 simp only [na]
 unfold roomB
 by_cases h0 : 0 ≤ n
 ·by_cases h2 : n ≤ 2048
  ·try refine run ?_
   refine WX.call rfl hfc rfl ?_
   rintro u _ ⟨hn, rfl, hs⟩
   have hr := hs.rs
   simp only [ca, na]
   by_cases h63 : l.length < 63
   ·try refine run ?_
    refine WX.callQ rfl huc rfl ?_
    repeat' (first | refine run ?_ | refine WX.mul rfl rfl rfl (by omega) ?_ | fail)
    exact D.fin1 [WBk w d seg torn, h] _ rfl rfl ⟨by congr 1; rw [decide_eq_decide]; omega, rfl⟩
   ·try refine run ?_
    exact D.fin1 [WBk w d seg torn, h] _ rfl rfl ⟨by rw [decide_eq_false (by omega)], rfl⟩
  ·try refine run ?_
   exact D.fin1 [WBk w d seg torn, h] _ rfl rfl ⟨by rw [decide_eq_false (by omega)], rfl⟩
 ·try refine run ?_
  exact D.fin1 [WBk w d seg torn, h] _ rfl rfl ⟨by rw [decide_eq_false (by omega)], rfl⟩
end Go.Proofs.YtejfahjgfedliaaGreat

namespace Go.Sl
open Go
end Go.Sl
namespace Go.Proofs.YtejfahjgfedliaaGreat
open Go Go.Sl
end Go.Proofs.YtejfahjgfedliaaGreat
