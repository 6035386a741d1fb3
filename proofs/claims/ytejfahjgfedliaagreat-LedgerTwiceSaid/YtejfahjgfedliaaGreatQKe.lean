/-
  Texts of one road, one behind the other.
-/
import Derived.Test.YtejfahjgfedliaaGreatQKd
import Derived.Test.YtejfahjgfedliaaGreatQKb
import Derived.Test.YtejfahjgfedliaaGreatQKc
set_option linter.unusedVariables false
set_option linter.unusedSimpArgs false
namespace Go.Proofs.YtejfahjgfedliaaGreat
open Go Go.Sl Go.Proofs.Tryz List
theorem q_set {qp : List RfQ} {x y : RfQ} {post : List RfQ} : (qp ++ x :: post).set qp.length y = qp ++ y :: post := by rw [set_append_right _ _ (Nat.le_refl _), Nat.sub_self]; rfl
theorem q_del {qp : List RfQ} {x y : RfQ} {post : List RfQ} : (qp ++ x :: y :: post).eraseIdx (qp.length + 1) = qp ++ x :: post := by
 rw [eraseIdx_append_of_length_le (by omega)]
 rw [show qp.length + 1 - qp.length = 1 by omega]
 rfl
theorem QOk.cut1 {qp : List RfQ} {x : RfQ} {post : List RfQ} (h : QOk (qp ++ x :: post)) {m : Nat} (hm : m ≤ x.b.length) : QOk (qp ++ x.cut m :: post) where
 up := by have := h.up; simp only [map_append, map_cons] at this ⊢; exact this
 ok := fun q hq => by
  rcases mem_append.1 hq with hq | hq
  ·exact h.ok q (by simp [hq])
  ·rcases mem_cons.1 hq with rfl | hq
   ·exact ⟨by show m + 0 = (x.b.take m).length; rw [length_take]; omega, by show ∀ y ∈ [], _; simp⟩
   ·exact h.ok q (by simp [hq])
 used := by
  have := h.used
  simp only [map_append, map_cons, sum_append, sum_cons] at this ⊢
  have e : (x.cut m).b.length ≤ x.b.length := by show (x.b.take m).length ≤ _; rw [length_take]; omega
  omega
 len := by have := h.len; simp only [length_append, length_cons] at this ⊢; exact this
theorem QOk.del1 {qp : List RfQ} {x y : RfQ} {post : List RfQ} (h : QOk (qp ++ x :: y :: post)) : QOk (qp ++ x :: post) where
 up := by
  have := h.up
  simp only [map_append, map_cons, pairwise_append, pairwise_cons, mem_cons] at this ⊢
  refine ⟨this.1, ⟨fun a ha => this.2.1.1 a (.inr ha), this.2.1.2.2⟩, fun a ha b hb => this.2.2 a ha b ?_⟩
  rcases hb with hb | hb
  ·exact .inl hb
  ·exact .inr (.inr hb)
 ok := fun q hq => h.ok q (by
  rcases mem_append.1 hq with hq | hq
  ·simp [hq]
  ·rcases mem_cons.1 hq with rfl | hq <;> simp_all)
 used := by have := h.used; simp only [map_append, map_cons, sum_append, sum_cons] at this ⊢; omega
 len := by have := h.len; simp only [length_append, length_cons] at this ⊢; omega
set_option maxHeartbeats 8000000 in
theorem vopen_ct {pre : List Lf} {qp tail : List RfQ} (hm : All2 FR pre qp) (hgd : ∀ f ∈ pre, ∀ r ∈ f.rs, r.code = 0) (qok : QOk (qp ++ tail)) {t : Int} {d : Nat} {h : Hp} (hd : IsRk ((qp ++ tail).map RfQ.pl) t d h)
  {seg torn : Int} {qs' : List RfQ} {out : List Rec} (hcount : 6 * (recs pre).length ≤ 1048576)
  (hend : (tail = [] ∧ seg = lastN pre ∧ torn = 0 ∧ qs' = qp ∧ out = outF (recs pre)) ∨
   ∃ x post rs tt, tail = x :: post ∧ x.b = bytes rs ++ tt ∧ x.ts = [] ∧ (∀ r ∈ rs, r.code = 0) ∧ Short tt ∧ tt ≠ [] ∧ seg = x.n ∧ torn = ((tt.length + (post.map (fun q => q.b.length)).sum : Nat) : Int) ∧ qs' = qp ++ [x.cut (bytes rs).length] ∧ out = outF (recs pre ++ rs)) :
  Ct prog 49 [.pointer (some ⟨d, 0, none⟩)] [h] (fun res H' => ∃ w u h' ho, res = .tuple #[.pointer (some ⟨w, 0, none⟩), u] ∧ H' = [VBk w d seg torn, h', ho] ∧ IsRk (qs'.map RfQ.pl) t d h' ∧ IsSl 108 out u ho) := by
 have hll := qok.len
 have hml := hm.len
 have hfc := rfiles_ct hd (by rw [length_map]; omega)
 have hnm : ((qp ++ tail).map RfQ.pl).map (·.n) = (qp ++ tail).map (·.n) := by rw [map_map]; rfl
 rw [hnm] at hfc
 have hnl : ((qp ++ tail).map (·.n)).length = pre.length + tail.length := by rw [length_map, length_append]; omega
 rw [length_append] at hll
 refine Ct.mk' func49 rfl rfl rfl (fun g R => ?_)
 try simp only [ca]
 simp only [na]
 repeat' (first | refine run ?_ | refine bx rfl (fun _ => ?_) | fail)
 rename_i w
 refine WX.call rfl hfc rfl ?_
 rintro fu _ ⟨hn, rfl, hs⟩
 have hr := hs.rs
 simp only [ca, na]
 try refine run ?_
 refine W.nilH ?_
 refine W.loop (α := Bool × Nat × Value × Hp × Hp × Int × Int)
  (fun z => (z.1 = false ∧ z.2.1 ≤ pre.length ∧ IsSl 108 (outF (recs (pre.take z.2.1))) z.2.2.1 z.2.2.2.1 ∧ IsRk ((qp ++ tail).map RfQ.pl) t d z.2.2.2.2.1 ∧ z.2.2.2.2.2.1 = lastN (pre.take z.2.1) ∧ z.2.2.2.2.2.2 = 0) ∨
   (z.1 = true ∧ ∃ x post m tl j, (tail = x :: post ∧ m ≤ x.b.length ∧ seg = x.n ∧ torn = ((tl + (post.map (fun q => q.b.length)).sum : Nat) : Int) ∧ qs' = qp ++ [x.cut m]) ∧ z.2.1 = pre.length + 1 + j ∧ j ≤ post.length ∧ IsSl 108 out z.2.2.1 z.2.2.2.1 ∧ IsRk ((qp ++ x.cut m :: post.drop j).map RfQ.pl) t d z.2.2.2.2.1 ∧ QOk (qp ++ x.cut m :: post.drop j) ∧ z.2.2.2.2.2.1 = x.n ∧ z.2.2.2.2.2.2 = ((tl + ((post.take j).map (fun q => q.b.length)).sum : Nat) : Int) ∧ tl ≤ 1048576))
  (fun z => [(0, .pointer (some ⟨d, 0, none⟩)), (4, .pointer (some ⟨w, 0, none⟩)), (5, z.2.2.1), (6, fu), (7, .bool z.1), (8, .int .i64 (z.2.1 : Int))])
  (fun z => [z.2.2.2.1, VBk w d z.2.2.2.2.2.1 z.2.2.2.2.2.2, z.2.2.2.2.1, hn, R]) (fun z => pre.length + tail.length + 1 - z.2.1) (false, 0, .slice none 0 0, [], h, 0, 0) (.inl ⟨rfl, Nat.zero_le _, IsSl.nil _, hd, rfl, rfl⟩) (by repeat (first | exact Fsub.nil | refine Fsub.cons rfl ?_)) (Hsub.of_picks inferInstance) ?_
 rintro ⟨bad, i, o, ho, y, sg, tn⟩ hP
 simp only [] at hP ⊢
 rcases hP with ⟨rfl, hi, hso, hdy, rfl, rfl⟩ | ⟨rfl, x, post, m, tl, j, ⟨rfl, hmx, rfl, rfl, rfl⟩, rfl, hj, hso, hdy, qoky, rfl, rfl, htl⟩
 ·by_cases hC : i = pre.length ∧ tail = []
  ·obtain ⟨rfl, rfl⟩ := hC
   simp only [length_nil] at hnl
   rcases hend with ⟨-, rfl, rfl, rfl, rfl⟩ | ⟨x, post, rs, tt, e, -⟩
   ·rw [append_nil] at hdy
    rw [take_length] at hso ⊢
    try refine run ?_
    exact D.fin2 [VBk w d (lastN pre) 0, y, ho] _ rfl rfl rfl ⟨w, o, y, ho, rfl, rfl, hdy, hso⟩
   ·cases e
  ·obtain ⟨q, rs, tt, hqi, hqb, hgr, hcase⟩ : ∃ q rs tt, (qp ++ tail)[i]? = some q ∧ q.b = bytes rs ++ tt ∧ (∀ r ∈ rs, r.code = 0) ∧
     ((tt = [] ∧ ∃ f, pre[i]? = some f ∧ f.n = q.n ∧ f.rs = rs) ∨ (i = pre.length ∧ ∃ post, tail = q :: post ∧ q.ts = [] ∧ Short tt ∧ tt ≠ [] ∧ seg = q.n ∧ torn = ((tt.length + (post.map (fun q => q.b.length)).sum : Nat) : Int) ∧ qs' = qp ++ [q.cut (bytes rs).length] ∧ out = outF (recs pre ++ rs))) := by
    by_cases hlt : i < pre.length
    ·obtain ⟨f, hf⟩ : ∃ f, pre[i]? = some f := ⟨_, List.getElem?_eq_getElem hlt⟩
     obtain ⟨q, hq⟩ : ∃ q, qp[i]? = some q := ⟨_, List.getElem?_eq_getElem (by omega)⟩
     have hfr := hm.get hf hq
     exact ⟨q, f.rs, [], by rw [List.getElem?_append_left (by omega)]; exact hq, by rw [append_nil]; exact hfr.b, hgd f (mem_of_getElem? hf), .inl ⟨rfl, f, hf, hfr.n.symm, rfl⟩⟩
    ·obtain rfl : i = pre.length := by omega
     rcases hend with ⟨e, -⟩ | ⟨x, post, rs, tt, e1, e2, e3, e4, e5, e6, e7, e8, e9, e10⟩
     ·exact absurd ⟨rfl, e⟩ hC
     ·exact ⟨x, rs, tt, by rw [e1, hml, List.getElem?_append_right (Nat.le_refl _), Nat.sub_self]; rfl, e2, e4, .inr ⟨rfl, post, e1, e3, e5, e6, e7, e8, e9, e10⟩⟩
   have hqm := mem_of_getElem? hqi
   have hbl := qok.bl hqm
   rw [hqb, length_append] at hbl
   have hrl : 6 * rs.length ≤ 1048576 := by
    have := bytes_count hgr
    omega
   have hrt : (recs (pre.take i)).length ≤ (recs pre).length := by
    have := congrArg (fun l => (recs l).length) (take_append_drop i pre)
    simp only [recs_app, length_append] at this; omega
   have hnI : ((qp ++ tail).map (·.n))[i]? = some q.n := by rw [List.getElem?_map, hqi]; rfl
   have hrc := rread_ct hdy qok.srt (by rw [length_map, length_append]; omega) (q_nth hqi)
   have hil : i < pre.length + tail.length := by rw [← hnl]; exact (List.getElem?_eq_some_iff.1 hnI).1
   try refine run ?_
   refine WX.call rfl hrc rfl ?_
   rintro _ _ ⟨ub, rfl, rfl, hrb⟩
   have hrb : Rs (bytes rs ++ tt) ub y := by rw [← hqb]; exact hrb
   obtain ⟨bp, bc, rfl⟩ := hrb.len
   have hbc : (bytes rs ++ tt).length ≤ bc := by obtain ⟨a, cc, e, le, _⟩ := id hrb; cases e; exact le
   have hcl : (bytes rs ++ tt).length = (bytes rs).length + tt.length := length_append
   simp only [ca, na]
   try refine run ?_
   refine W.loop (α := Nat × Value × Hp) (fun z => z.1 ≤ rs.length ∧ IsSl 108 (outF (recs (pre.take i) ++ rs.take z.1)) z.2.1 z.2.2)
    (fun z => [(0, .pointer (some ⟨d, 0, none⟩)), (4, .pointer (some ⟨w, 0, none⟩)), (5, z.2.1), (6, fu), (7, .bool false), (8, .int .i64 (i : Int)), (9, .slice bp (bytes rs ++ tt).length bc), (11, .int .i64 ((bytes (rs.take z.1)).length : Int))])
    (fun z => [y, z.2.2, VBk w d q.n 0, hn, R]) (fun z => rs.length + 1 - z.1) (0, o, ho) ⟨Nat.zero_le _, by simpa using hso⟩ (by repeat (first | exact Fsub.nil | refine Fsub.cons rfl ?_)) (Hsub.of_picks inferInstance) ?_
   rintro ⟨j, o1, ho1⟩ ⟨hj, hso1⟩
   simp only [] at hj hso1 ⊢
   have hbt := bytes_take_le rs j
   by_cases hlt : j < rs.length
   ·obtain ⟨r, hrj⟩ : ∃ r, rs[j]? = some r := ⟨_, List.getElem?_eq_getElem hlt⟩
    have hrc0 := hgr r (mem_of_getElem? hrj)
    have hgd1 := Rec.good hrc0
    have hle := hgd1.fr_le
    have htk : rs.take (j + 1) = rs.take j ++ [r] := by rw [take_succ_eq_append_getElem hlt, (List.getElem?_eq_some_iff.1 hrj).2]
    have hdj : rs.drop j = r :: rs.drop (j + 1) := by rw [drop_eq_getElem_cons hlt, (List.getElem?_eq_some_iff.1 hrj).2]
    have hat : (bytes (rs.take (j + 1))).length = (bytes (rs.take j)).length + r.fr.length := by rw [htk, bytes_app, length_append]; simp [bytes]
    have hxs : (bytes rs ++ tt).drop (bytes (rs.take j)).length = r.fr ++ (bytes (rs.drop (j + 1)) ++ tt) := by
     rw [← bytes_take_drop rs j, append_assoc, drop_left, hdj, bytes_cons, append_assoc]
    have hxl : (bytes rs ++ tt).length = (bytes (rs.take j)).length + (r.fr.length + (bytes (rs.drop (j + 1)) ++ tt).length) := by
     have := congrArg List.length hxs
     simp only [length_drop, length_append] at this ⊢
     omega
    have hcut := hrb.cut (m := 1) (lo := (bytes (rs.take j)).length) (hi := (bytes rs ++ tt).length) (mx := bc) rfl (by omega) (Nat.le_refl _) hbc
    rw [take_of_length_le (by rw [length_drop]; omega)] at hcut
    have hread := rread_ok hgd1 hxs hcut (by rw [length_drop]; omega)
    have hoc := outF_len (recs (pre.take i) ++ rs.take j)
    rw [length_append, length_take] at hoc
    try refine run ?_
    refine I.sl ?_
    refine WX.cutFrom (lo := (bytes (rs.take j)).length) rfl rfl (by omega) hbc rfl ?_
    refine WX.callQ rfl hread rfl ?_
    repeat' (first | refine mv ?_ | refine ex ?_ | fail)
    refine WX.alloc rfl (fun ba => ?_)
    refine WX.hp (H' := [[(ba, .cells Rec.z.enc.toArray 108 (0, 0))], y, ho1, VBk w d q.n 0, hn, R]) rfl ?_
    refine I.st ?_
    refine WX.storeG (vs := r.enc) (b := ba) (i := 0) (cs := Rec.z.enc) rfl rfl rfl rfl rfl rfl ?_
    rw [setAt_whole (show Rec.z.enc.length = r.enc.length from rfl)]
    by_cases hk3 : r.k = 3
    ·repeat' (first | refine WX.loadA (b := ba) (i := 0) (cs := r.enc) (vs := r.enc) rfl rfl rfl rfl ?_ | refine stp ?_ | fail)
     refine I.bs ?_
     refine WX.lit (ys := [r]) rfl rfl rfl rfl rfl rfl (by decide) rfl (fun v1 h1 hs1 => ?_)
     refine WX.app rfl rfl hso1 hs1.rs rfl rfl (by decide) (by simp only [length_cons, length_nil, length_append] at hoc ⊢; omega) rfl (fun v2 h2 hs2 => ?_)
     repeat' (first | refine WX.load (v := .int .i64 r.k) (b := ba) (i := 0) (cs := r.enc) rfl rfl rfl ?_ | refine stp ?_ | fail)
     refine D.as 11 (.int .i64 ((bytes (rs.take (j + 1))).length : Int)) rfl (by rw [hat]; rfl) ?_
     refine D.nilH ?_
     exact D.rd (j + 1, .slice none 0 0, []) ⟨by simp only []; omega, by simp only []; rw [htk, ← append_assoc, outF_snoc, if_pos hk3]; exact IsSl.nil _⟩ (by simp only []; omega)
    ·repeat' (first | refine WX.loadA (b := ba) (i := 0) (cs := r.enc) (vs := r.enc) rfl rfl rfl rfl ?_ | refine stp ?_ | fail)
     refine I.bs ?_
     refine WX.lit (ys := [r]) rfl rfl rfl rfl rfl rfl (by decide) rfl (fun v1 h1 hs1 => ?_)
     refine WX.app rfl rfl hso1 hs1.rs rfl rfl (by decide) (by simp only [length_cons, length_nil, length_append] at hoc ⊢; omega) rfl (fun v2 h2 hs2 => ?_)
     repeat' (first | refine WX.load (v := .int .i64 r.k) (b := ba) (i := 0) (cs := r.enc) rfl rfl rfl ?_ | refine stp ?_ | fail)
     refine D.as 11 (.int .i64 ((bytes (rs.take (j + 1))).length : Int)) rfl (by rw [hat]; rfl) ?_
     exact D.rd (j + 1, v2, h2) ⟨by simp only []; omega, by simp only []; rw [htk, ← append_assoc, outF_snoc, if_neg hk3]; exact hs2⟩ (by simp only []; omega)
   ·obtain rfl : j = rs.length := by omega
    rw [take_length] at hso1 hbt ⊢
    rcases hcase with ⟨rfl, f, hf, hfn, rfl⟩ | ⟨rfl, post, rfl, hts, hsh, htn, rfl, rfl, rfl, rfl⟩
    ·simp only [length_nil, Nat.add_zero] at hcl
     have hip := (List.getElem?_eq_some_iff.1 hf).1
     try refine run ?_
     rw [← recs_take hf] at hso1
     rw [← hfn, ← lastN_take hf]
     exact D.rd (false, i + 1, o1, ho1, y, lastN (pre.take (i + 1)), 0) (.inl ⟨rfl, by simp only []; omega, hso1, hdy, rfl, rfl⟩) (by simp only []; omega)
    ·obtain ⟨r, k, hrc0, hk, rfl⟩ := hsh
     have hgd1 := Rec.good hrc0
     have hle := hgd1.fr_le
     have htl : 0 < (r.fr.take k).length := length_pos_iff.2 htn
     have hkl : (r.fr.take k).length = k := by rw [length_take]; omega
     have hcut := hrb.cut (m := 1) (lo := (bytes rs).length) (hi := (bytes rs ++ r.fr.take k).length) (mx := bc) rfl (by omega) (Nat.le_refl _) hbc
     rw [take_of_length_le (by rw [length_drop]; omega), drop_left] at hcut
     have hread := rread_short hgd1 hk (by omega) rfl hcut
     rw [take_length] at hso1
     have htr := rtrunc_ct qok hdy hqi hts (m := (bytes rs).length) (by rw [hqb, length_append]; omega)
     rw [hml, q_set] at htr
     try refine run ?_
     refine I.sl ?_
     refine WX.cutFrom (lo := (bytes rs).length) rfl rfl (by omega) hbc rfl ?_
     refine WX.callQ rfl hread rfl ?_
     repeat' (first | refine mv ?_ | refine ex ?_ | fail)
     refine WX.alloc rfl (fun ba => ?_)
     refine WX.hp (H' := [[(ba, .cells Rec.z.enc.toArray 108 (0, 0))], y, ho1, VBk w d q.n 0, hn, R]) rfl ?_
     refine I.st ?_
     refine WX.storeG (vs := Rec.z.enc) (b := ba) (i := 0) (cs := Rec.z.enc) rfl rfl rfl rfl rfl rfl ?_
     rw [setAt_whole rfl]
     try refine run ?_
     refine WX.call rfl htr rfl ?_
     rintro _ _ ⟨y0, rfl, rfl, hd0⟩
     have e0 : (0 + ((bytes rs ++ r.fr.take k).length : Int) - ((bytes rs).length : Int)) = (((r.fr.take k).length + ((post.take 0).map (fun q => q.b.length)).sum : Nat) : Int) := by
      simp only [length_append, take_zero, map_nil, sum_nil]; omega
     rw [e0]
     simp only [ca, na]
     try refine run ?_
     exact D.round (true, pre.length + 1 + 0, o1, ho1, y0, q.n, (((r.fr.take k).length + ((post.take 0).map (fun q => q.b.length)).sum : Nat) : Int))
      (.inr ⟨rfl, q, post, (bytes rs).length, (r.fr.take k).length, 0, ⟨rfl, by rw [hqb, length_append]; omega, rfl, rfl, rfl⟩, rfl, Nat.zero_le _, hso1, hd0, qok.cut1 (by rw [hqb, length_append]; omega), rfl, rfl, by omega⟩) (by simp only [length_cons]; omega) (by repeat (first | exact Fsub.nil | refine Fsub.cons rfl ?_)) (Hsub.of_picks inferInstance)
 ·have htc : (x :: post).length = post.length + 1 := rfl
  rw [htc] at hnl
  by_cases hjl : j < post.length
  ·obtain ⟨q, hq⟩ : ∃ q, post[j]? = some q := ⟨_, List.getElem?_eq_getElem hjl⟩
   have hdr : post.drop j = q :: post.drop (j + 1) := by rw [drop_eq_getElem_cons hjl, (List.getElem?_eq_some_iff.1 hq).2]
   have htk : ((post.take (j + 1)).map (fun q => q.b.length)).sum = ((post.take j).map (fun q => q.b.length)).sum + q.b.length := by
    rw [take_succ_eq_append_getElem hjl, (List.getElem?_eq_some_iff.1 hq).2]; simp
   have hle2 := sum_take_le (fun q : RfQ => q.b.length) post (j + 1)
   have hus := qok.used
   rw [map_append, map_cons, sum_append, sum_cons] at hus
   have hnI : ((qp ++ x :: post).map (·.n))[pre.length + 1 + j]? = some q.n := by
    rw [List.getElem?_map, hml, List.getElem?_append_right (by omega), show qp.length + 1 + j - qp.length = j + 1 by omega, List.getElem?_cons_succ, hq]; rfl
   rw [hdr] at hdy qoky
   have hqi : (qp ++ x.cut m :: q :: post.drop (j + 1))[qp.length + 1]? = some q := by
    rw [List.getElem?_append_right (by omega), show qp.length + 1 - qp.length = 1 by omega]; rfl
   have hql := qoky.len
   have hrc := rread_ct hdy qoky.srt (by rw [length_map]; omega) (q_nth hqi)
   have hrm := rremove_ct qoky hdy hqi
   rw [q_del] at hrm
   try refine run ?_
   refine WX.call rfl hrc rfl ?_
   rintro _ _ ⟨ub, rfl, rfl, hrb⟩
   have hrb : Rs q.b ub y := hrb
   obtain ⟨bp, bc, rfl⟩ := hrb.len
   simp only [ca, na]
   try refine run ?_
   refine WX.call rfl hrm rfl ?_
   rintro _ _ ⟨y2, rfl, rfl, hd2⟩
   have e1 : (((tl + ((post.take j).map (fun q => q.b.length)).sum : Nat) : Int) + (q.b.length : Int)) = ((tl + ((post.take (j + 1)).map (fun q => q.b.length)).sum : Nat) : Int) := by rw [htk]; omega
   rw [e1]
   simp only [ca, na]
   try refine run ?_
   exact D.round (true, pre.length + 1 + (j + 1), o, ho, y2, x.n, ((tl + ((post.take (j + 1)).map (fun q => q.b.length)).sum : Nat) : Int))
    (.inr ⟨rfl, x, post, m, tl, j + 1, ⟨rfl, hmx, rfl, rfl, rfl⟩, rfl, by omega, hso, hd2, qoky.del1, rfl, rfl, htl⟩) (by simp only [length_cons]; omega) (by repeat (first | exact Fsub.nil | refine Fsub.cons rfl ?_)) (Hsub.of_picks inferInstance)
  ·obtain rfl : j = post.length := by omega
   rw [drop_length] at hdy
   rw [take_length]
   try refine run ?_
   exact D.fin2 [VBk w d x.n ((tl + (post.map (fun q => q.b.length)).sum : Nat) : Int), y, ho] _ rfl rfl rfl ⟨w, o, y, ho, rfl, rfl, hdy, hso⟩
theorem vopen_whole {l : List Lf} (ok : LOk l) {d : Nat} {h : Hp} {T : Int} (hd : RD l d h T) :
  Ct prog 49 [.pointer (some ⟨d, 0, none⟩)] [h] (fun res H' => ∃ w u h' ho, res = .tuple #[.pointer (some ⟨w, 0, none⟩), u] ∧ H' = [VBk w d (lastN l) 0, h', ho] ∧ RD l d h' T ∧ IsSl 108 (outF (recs l)) u ho) := by
 obtain ⟨qs, t, lr, ht, hd⟩ := hd
 have hc := recs_count ok.good
 have hu := ok.used
 have hd' : IsRk ((qs ++ []).map RfQ.pl) t d h := by rw [append_nil]; exact hd
 refine Ct.mono (vopen_ct (tail := []) lr.m ok.good (by rw [append_nil]; exact lr.q ok.toLUp) hd' (by omega) (.inl ⟨rfl, rfl, rfl, rfl, rfl⟩)) ?_
 rintro r H' ⟨w, u, h', ho, e1, e2, e3, e4⟩
 exact ⟨w, u, h', ho, e1, e2, ⟨qs, t, lr, ht, e3⟩, e4⟩
theorem full_loose0 {l : List Lf} (h : ∀ f ∈ l, f.full = f) : (dk l).loose = [] := by
 unfold dk
 rw [flatten_eq_nil_iff]
 intro z hz
 obtain ⟨x, hx, rfl⟩ := mem_map.1 hz
 rw [← h x hx]
 exact x.full_ps
theorem fr_full {f : Lf} (h : f.full = f) : FR f (fq f.file) := by
 have hs : f.s7 = (bytes f.rs).length := by
  have := congrArg Lf.k h
  unfold Lf.s7
  rw [show f.k = f.rs.length from this.symm, take_length]
 exact ⟨rfl, rfl, rfl, by show f.s7 + 0 = _; rw [hs]; rfl⟩
theorem all_full : ∀ {l : List Lf}, (∀ f ∈ l, f.full = f) → All2 FR l (l.map fun f => fq f.file)
 | [], _ => .nil
 | f :: t, h => .cons (fr_full (h f (mem_cons_self ..))) (all_full fun x hx => h x (mem_cons_of_mem _ hx))
theorem fq_allT (xs : List FileP) : allT (xs.map fq) = [] := by
 unfold allT
 rw [flatten_eq_nil_iff]
 intro z hz
 obtain ⟨x, hx, rfl⟩ := mem_map.1 hz
 obtain ⟨y, _, rfl⟩ := mem_map.1 hx
 rfl
theorem both_openK {l : List Lf} (ok : LOk l) (q : Nat) : ∃ l' torn, LOk l' ∧ ((∀ f ∈ l', f.full = f) ∧ sumK l ≤ keptN l q ∧ keptN l q ≤ (recs l).length ∧ recs l' = (recs l).take (keptN l q) ∧ (looseB l ≤ q → torn = 0) ∧ (lastN l' ≤ lastN l)) ∧
  (∀ {d : Nat} {h : Hp}, IsDk ⟨crashL l q, []⟩ d h → Ct prog 45 [.pointer (some ⟨d, 0, none⟩)] [h] (fun res H' => ∃ w u h' ho, res = .tuple #[.pointer (some ⟨w, 0, none⟩), u] ∧ H' = [WBk w d (lastN l') torn, h', ho] ∧ IsDk (dk l') d h' ∧ IsSl 108 (outF (recs l')) u ho)) ∧
  (∀ {d : Nat} {h : Hp} {t T : Int}, 0 ≤ t → t ≤ T → IsRk (((crashL l q).map fq).map RfQ.pl) t d h → Ct prog 49 [.pointer (some ⟨d, 0, none⟩)] [h] (fun res H' => ∃ w u h' ho, res = .tuple #[.pointer (some ⟨w, 0, none⟩), u] ∧ H' = [VBk w d (lastN l') torn, h', ho] ∧ RD l' d h' T ∧ IsSl 108 (outF (recs l')) u ho)) := by
 rcases crash_splitK l q ok.good ok.k ok.tail with ⟨l', m, h1, h2, h3, h4, h5, hm⟩ | ⟨a, f, b, pre, j, t, m, h1, h2, h3, h4, h5, h6, h7, h8, h9, hm, hq⟩
 ·have ok' := h2.ok ok
  subst hm
  refine ⟨l', 0, ok', ⟨h2.full, h3, h4, h5, fun _ => rfl, by rw [h2.lastN]; exact Int.le_refl _⟩, fun {d h} hd => ?_, fun {d h t T} ht0 ht hd => ?_⟩
  ·have e : (⟨crashL l q, []⟩ : DkS) = dk l' := by
    have := full_loose0 h2.full
    unfold dk at this ⊢
    rw [h1]
    simp only [] at this
    rw [this]
   rw [e] at hd
   exact open_whole ok' hd
  ·rw [h1] at hd
   have e : (l'.map Lf.file).map fq = l'.map fun f => fq f.file := by rw [map_map]; rfl
   rw [e] at hd
   refine vopen_whole ok' ⟨_, t, ⟨all_full h2.full, ?_, ?_, ht0⟩, ht, hd⟩
   ·rw [← e, fq_allT]; exact .nil
   ·rw [← e, fq_allT]; simp
 ·subst hm
  obtain ⟨ox, ok2⟩ := crash_xok ok h1 h2 h6
  have hg : ∀ r ∈ f.rs.take j, r.code = 0 := fun r hr => ok.good f (by rw [h1]; simp) r (mem_of_mem_take hr)
  refine ⟨pre ++ [⟨f.n, f.rs.take j, (f.rs.take j).length⟩], ((t.length + ((b.map (fun g => (⟨g.n, [], 0⟩ : FileP))).map (·.b.length)).sum : Nat) : Int), ok2, ⟨fun x hx => ?_, h7, h8, by rw [recs_app, recs_one]; exact h9, fun h => absurd h (by omega), ?_⟩, fun {d h} hd => ?_, fun {d h tm T} ht0 ht hd => ?_⟩
  ·rcases mem_append.1 hx with hx | hx
   ·exact h2.full x hx
   ·rw [mem_singleton.1 hx]; rfl
  ·rw [lastN_app]
   rcases eq_nil_or_concat b with rfl | ⟨b', g, rfl⟩
   ·rw [h1, lastN_app]; exact Int.le_refl _
   ·rw [h1, concat_eq_append, show a ++ f :: (b' ++ [g]) = (a ++ f :: b') ++ [g] by simp, lastN_app]
    have hup := ok.up
    rw [h1, pairwise_append, pairwise_cons] at hup
    exact Int.le_of_lt (hup.2.1.1 g (by rw [concat_eq_append]; simp))
  ·have e : (⟨crashL l q, []⟩ : DkS) = dkX pre ⟨f.n, bytes (f.rs.take j) ++ t, (bytes (f.rs.take j) ++ t).length⟩ (b.map (fun g => ⟨g.n, [], 0⟩)) := by unfold dkX; rw [h3]
   rw [e] at hd
   refine Ct.mono (open_torn ox rfl rfl hg h4 h5 hd) ?_
   rintro r H' ⟨w, u, h', ho, e1, e2, e3, e4⟩
   exact ⟨w, u, h', ho, e1, by rw [lastN_app]; exact e2, e3, by rw [recs_app, recs_one]; exact e4⟩
  ·rw [h3] at hd
   have hpf := ox.full
   have e : (pre.map Lf.file ++ (⟨f.n, bytes (f.rs.take j) ++ t, (bytes (f.rs.take j) ++ t).length⟩ : FileP) :: b.map (fun g => ⟨g.n, [], 0⟩)).map fq = (pre.map fun f => fq f.file) ++ fq ⟨f.n, bytes (f.rs.take j) ++ t, (bytes (f.rs.take j) ++ t).length⟩ :: (b.map fun g => fq ⟨g.n, [], 0⟩) := by
    rw [map_append, map_cons, map_map, map_map]; rfl
   have hqo : QOk ((pre.map fun f => fq f.file) ++ fq ⟨f.n, bytes (f.rs.take j) ++ t, (bytes (f.rs.take j) ++ t).length⟩ :: (b.map fun g => fq ⟨g.n, [], 0⟩)) := by
    rw [← e]
    refine ⟨?_, ?_, ?_, ?_⟩
    ·rw [map_map]; exact ox.up
    ·intro y hy
     rw [e] at hy
     rcases mem_append.1 hy with hy | hy
     ·obtain ⟨g', hg', rfl⟩ := mem_map.1 hy
      exact ⟨(fr_full (hpf g' hg')).e, by show ∀ x ∈ [], _; simp⟩
     ·rcases mem_cons.1 hy with rfl | hy
      ·exact ⟨rfl, by show ∀ x ∈ [], _; simp⟩
      ·obtain ⟨g', _, rfl⟩ := mem_map.1 hy
       exact ⟨rfl, by show ∀ x ∈ [], _; simp⟩
    ·rw [map_map]; exact ox.used
    ·rw [length_map]; exact ox.len
   rw [e] at hd
   have hc := recs_count (l := pre) ox.good
   have hup := ox.used
   unfold DkS.used dkX at hup
   simp only [map_append, sum_append] at hup
   rw [dk_used] at hc
   have hme : ((pre.map Lf.file).map (fun x => x.b.length)) = pre.map (fun f => (bytes f.rs).length) := by rw [map_map]; rfl
   rw [hme] at hup
   refine Ct.mono (vopen_ct (all_full hpf) ox.good hqo hd (by omega) (.inr ⟨_, _, f.rs.take j, t, rfl, rfl, rfl, hg, h4, h5, rfl, rfl, rfl, rfl⟩)) ?_
   rintro r H' ⟨w, u, h', ho, e1, e2, e3, e4⟩
   refine ⟨w, u, h', ho, e1, ?_, ⟨_, tm, ⟨(all_full hpf).app (.cons ⟨rfl, ?_, ?_, ?_⟩ .nil), ?_, ?_, ht0⟩, ht, e3⟩, by rw [recs_app, recs_one]; exact e4⟩
   ·rw [lastN_app, e2]
    rw [map_map, map_map]
    rfl
   ·show (bytes (f.rs.take j) ++ t).take (bytes (f.rs.take j)).length = _; rw [take_left]
   ·show (bytes (f.rs.take j)).length = _; unfold Lf.s7; simp only [take_length]
   ·show (bytes (f.rs.take j)).length + 0 = ((bytes (f.rs.take j) ++ t).take (bytes (f.rs.take j)).length).length; rw [take_left]; omega
   ·rw [allT_app, allT_one, show (pre.map fun f => fq f.file) = (pre.map Lf.file).map fq from by rw [map_map]; rfl, fq_allT]; exact .nil
   ·rw [allT_app, allT_one, show (pre.map fun f => fq f.file) = (pre.map Lf.file).map fq from by rw [map_map]; rfl, fq_allT]; intro x hx; cases hx
end Go.Proofs.YtejfahjgfedliaaGreat

namespace Go.Proofs.YtejfahjgfedliaaGreat
open Go Go.Sl List
theorem psum : ∀ {l : List Pc} {k : Nat}, (∀ p ∈ l, 0 ≤ p.n) → 0 ≤ ((l.take k).map (·.n)).sum ∧ ((l.take k).map (·.n)).sum ≤ (l.map (·.n)).sum
 | [], k, _ => by simp
 | p :: t, 0, h => by
  have h1 := h p (mem_cons_self ..)
  have h2 := (psum (l := t) (k := t.length) fun x hx => h x (mem_cons_of_mem _ hx)).1
  rw [take_length] at h2
  simp only [take_zero, map_nil, sum_nil, map_cons, sum_cons]; omega
 | p :: t, k + 1, h => by
  have h1 := h p (mem_cons_self ..)
  have h2 := psum (l := t) (k := k) fun x hx => h x (mem_cons_of_mem _ hx)
  simp only [take_succ_cons, map_cons, sum_cons]; omega
structure Ch where
 ep : Int
 ms : List Mem
 ln : Option Mem
 deriving DecidableEq
def Ch.all (c : Ch) : List Mem := c.ms ++ c.ln.toList
def Ch.cfg (c : Ch) : Cfg := ⟨c.ep, (c.ms.length : Int), c.ms.getD 0 Mem.z, c.ms.getD 1 Mem.z, c.ms.getD 2 Mem.z, c.ms.getD 3 Mem.z, c.ln.isSome, c.ln.getD Mem.z⟩
structure ChOk (c : Ch) : Prop where
 e1 : 1 ≤ c.ep
 e2 : c.ep ≤ 1099511627776
 l1 : 1 ≤ c.ms.length
 up : (c.all.map (·.nd)).Pairwise (· ≠ ·)
 rg : ∀ m ∈ c.all, 0 ≤ m.nd ∧ m.nd < 4 ∧ 1 ≤ m.sn ∧ m.sn ≤ c.ep
theorem four : ∀ {l : List Int}, l.Pairwise (· ≠ ·) → (∀ x ∈ l, 0 ≤ x ∧ x < 4) → l.length ≤ 4
 | [], _, _ => by decide
 | [_], _, _ => by simp
 | [_, _], _, _ => by simp
 | [_, _, _], _, _ => by simp
 | [_, _, _, _], _, _ => by simp
 | a :: b :: c :: d :: e :: t, h, k => by
  have ha := k a (by simp); have hb := k b (by simp); have hc := k c (by simp); have hd := k d (by simp); have he := k e (by simp)
  simp only [pairwise_cons, mem_cons, forall_eq_or_imp] at h
  obtain ⟨⟨h1, h2, h3, h4, _⟩, ⟨h5, h6, h7, _⟩, ⟨h8, h9, _⟩, ⟨h10, _⟩, _⟩ := h
  exfalso; omega
theorem ChOk.l4 {c : Ch} (h : ChOk c) : c.ms.length + c.ln.toList.length ≤ 4 := by
 have := four h.up (fun x hx => by
  obtain ⟨m, hm, rfl⟩ := mem_map.1 hx
  exact ⟨(h.rg m hm).1, (h.rg m hm).2.1⟩)
 rw [length_map] at this
 unfold Ch.all at this
 rw [length_append] at this
 exact this
def firstCh (n : Nat) : Ch := ⟨1, (List.range n).map fun (i : Nat) => ⟨(i : Int), 1⟩, none⟩
theorem first_ok {n : Nat} (h1 : 1 ≤ n) (h2 : n ≤ 4) : ChOk (firstCh n) := by
 refine ⟨Int.le_refl 1, by show (1 : Int) ≤ 1099511627776; decide, by simpa [firstCh] using h1, ?_, ?_⟩
 ·match n, h1, h2 with
  | 1, _, _ => decide
  | 2, _, _ => decide
  | 3, _, _ => decide
  | 4, _, _ => decide
 ·match n, h1, h2 with
  | 1, _, _ => decide
  | 2, _, _ => decide
  | 3, _, _ => decide
  | 4, _, _ => decide
end Go.Proofs.YtejfahjgfedliaaGreat

namespace Go.Sl
open Go List
def arAt (b off m n l : Nat) : Addr := if n = l then ⟨b, off, none⟩ else ⟨b, off + l * m, none⟩
section
variable {g : World} {P : Program} {ops : Array Oper} {Q : Exit → Act → World → Prop} {q : Bool} {n d ty : Nat} {pos : String} {af : Array Edge} {rest : List Oper} {L : Fm} {H : HH}
variable {x i j : Operand} {t e m lo hi len b off : Nat} {ag : Bool} {kd kd' : IntKind}
theorem WX.arTo (hx : ev L x = some (.pointer (some ⟨b, off, none⟩))) (hj' : ev L j = some (.int kd' (hi : Int))) (h2 : hi ≤ len) [ht : TU P t (.array len e)] [hl : TL P e m ag]
  (hd : Nat.blt d n = true) (kk : WX q g P ops Q n rest ((d, .slice (some ⟨b, off, none⟩) hi len) :: L) H) : WX q g P ops Q n (⟨some d, .slice t x none (some j) none, ty, pos, af, none⟩ :: rest) L H :=
 WX.val (fun a' ha w hw => by
  have e0 : ∀ k : Nat, (if k = 0 then (⟨b, off, none⟩ : Addr) else (⟨b, off, none⟩ : Addr).add (0 * m)) = ⟨b, off, none⟩ := fun k => by split <;> simp [add_none]
  simp [execOp, ha.ev hx, ha.ev hj', Instr.sliceAt, Instr.sureAddr, Instr.sliceBounds, bound_ok h2, ht.run, hl.sizeOf, add_none]) hd kk
theorem WX.arFrom (hx : ev L x = some (.pointer (some ⟨b, off, none⟩))) (hi' : ev L i = some (.int kd (lo : Int))) (h1 : lo ≤ len) [ht : TU P t (.array len e)] [hl : TL P e m ag]
  (hd : Nat.blt d n = true) (kk : WX q g P ops Q n rest ((d, .slice (some (arAt b off m len lo)) (len - lo) (len - lo)) :: L) H) : WX q g P ops Q n (⟨some d, .slice t x (some i) none none, ty, pos, af, none⟩ :: rest) L H :=
 WX.val (fun a' ha w hw => by
  simp [execOp, ha.ev hx, ha.ev hi', Instr.sliceAt, Instr.sureAddr, Instr.sliceBounds, bound_ok h1, ht.run, hl.sizeOf, add_none, arAt]) hd kk
end
section
variable {α : Type} [Enc α]
theorem Rs.part {b o T c : Nat} {fr : Nat × Nat} {pre post cs : List Value} {xs : List α} (hcs : cs = pre ++ (encs xs ++ post)) (ho : pre.length = o) (hc : xs.length ≤ c) : Rs xs (.slice (some ⟨b, o, none⟩) xs.length c) [(b, .cells (List.toArray cs) T fr)] := by
 subst hcs; subst ho
 refine ⟨_, _, rfl, hc, fun k y hk => ⟨b, pre.length, rfl, fun j u hu g w hw => ?_⟩⟩
 have hj : j < Enc.sz α := by have := (List.getElem?_eq_some_iff.1 hu).1; rwa [Enc.len] at this
 rw [cell_bk (hw.2.2 b _ (mem_cons_self)), List.getElem?_append_right (by omega), show pre.length + (k * Enc.sz α + j) - pre.length = k * Enc.sz α + j by omega, encs_get hk hj, hu]
theorem Rs.none {v : Value} {p : Option Addr} {c : Nat} (h : Hp) (e : v = .slice p 0 c) : Rs ([] : List α) v h := ⟨p, c, e, Nat.zero_le _, fun k y hk => by simp at hk⟩
end
end Go.Sl

namespace Go.Proofs.YtejfahjgfedliaaGreat
open Go Go.Sl Go.Proofs.Tryz List
def Mem.enc (m : Mem) : List Value := [.int .i64 m.nd, .int .i64 m.sn]
instance : Enc Mem := ⟨2, Mem.enc, fun _ => rfl, fun _ => rfl, by decide⟩
abbrev CfBk (b : Nat) (c : Cfg) : Hp := [(b, .cells (List.toArray c.enc) 34 (0, 0))]
theorem cfg_ms {c : Ch} (h : c.ms.length ≤ 4) : ∃ post, c.cfg.enc = [.int .i64 c.cfg.ep, .int .i64 c.cfg.n] ++ (encs c.ms ++ post) := by
 obtain ⟨ep, ms, ln⟩ := c
 simp only [] at h
 match ms, h with
 | [], _ => exact ⟨_, rfl⟩
 | [_], _ => exact ⟨_, rfl⟩
 | [_, _], _ => exact ⟨_, rfl⟩
 | [_, _, _], _ => exact ⟨_, rfl⟩
 | [_, _, _, _], _ => exact ⟨_, rfl⟩
theorem cfg_rs {c : Ch} (h : c.ms.length ≤ 4) (b : Nat) : Rs c.ms (.slice (some ⟨b, 2, none⟩) c.ms.length 4) (CfBk b c.cfg) := by
 obtain ⟨post, e⟩ := cfg_ms h
 exact Rs.part e rfl h
theorem cloneM_ct {xs : List Mem} {v : Value} {h : Hp} (hs : Rs xs v h) (hl : xs.length ≤ 1000000) :
  Ct prog 140 [v] [h] (fun r H' => ∃ h', IsSl 31 xs r h' ∧ H' = [h', h]) := by
 obtain ⟨p, c, rfl⟩ := hs.len
 refine Ct.mk' func140 rfl rfl rfl (fun g R => ?_)
 try simp only [ca]
 simp only [na]
 cases p with
 | none =>
  have hx : xs = [] := by
   obtain ⟨a, c', e, _, f⟩ := hs
   cases e
   cases xs with
   | nil => rfl
   | cons y r => obtain ⟨b, off, e, _⟩ := f 0 y rfl; cases e
  subst hx
  repeat' (first | refine run ?_ | refine WX.eqlN rfl rfl rfl ?_ | fail)
  exact D.fin1 [[], h] _ rfl rfl ⟨_, IsSl.nil _, rfl⟩
 | some a =>
  repeat' (first | refine run ?_ | refine WX.eqlN rfl rfl rfl ?_ | fail)
  refine I.bs ?_
  refine WX.lit (ys := ([] : List Mem)) (vs := []) rfl rfl rfl rfl rfl rfl (by decide) rfl (fun v1 h1 hs1 => ?_)
  try refine run ?_
  refine WX.app rfl rfl hs1 hs rfl rfl (by decide) (by simp only [length_nil]; omega) rfl (fun v2 h2 hs2 => ?_)
  rw [nil_append] at hs2
  try refine run ?_
  exact D.fin1 [h2, h] _ rfl rfl ⟨_, hs2, rfl⟩
theorem members4_ct {c : Ch} (h4 : c.ms.length ≤ 4) :
  Ct prog 85 [.agg (List.toArray c.cfg.enc)] [] (fun r H' => ∃ h', IsSl 31 c.all r h' ∧ H' = [h']) := by
 have hrs := cfg_rs h4
 obtain ⟨ep, ms, ln⟩ := c
 simp only [] at h4 hrs
 refine Ct.mk' func85 rfl rfl rfl (fun g R => ?_)
 try simp only [ca]
 simp only [na]
 cases ln with
 | none =>
  repeat' (first | refine run ?_ | refine bx rfl (fun _ => ?_) | fail)
  rename_i b
  refine WX.arTo (hi := ms.length) rfl rfl h4 rfl ?_
  skip
  refine WX.call rfl (cloneM_ct (hrs b) (by omega)) rfl ?_
  rintro _ _ ⟨h1, hs1, rfl⟩
  simp only [ca, na]
  try refine run ?_
  exact D.fin1 [h1] _ rfl rfl ⟨h1, by simpa [Ch.all] using hs1, rfl⟩
 | some m =>
  repeat' (first | refine run ?_ | refine bx rfl (fun _ => ?_) | fail)
  rename_i b
  refine WX.arTo (hi := ms.length) rfl rfl h4 rfl ?_
  skip
  refine WX.call rfl (cloneM_ct (hrs b) (by omega)) rfl ?_
  rintro _ _ ⟨h1, hs1, rfl⟩
  simp only [ca, na]
  try refine run ?_
  refine I.bs ?_
  refine WX.lit (ys := [m]) rfl rfl rfl rfl rfl rfl (by decide) rfl (fun v2 h2 hs2 => ?_)
  skip
  refine WX.app rfl rfl hs1 hs2.rs rfl rfl (by decide) (by simp only [length_cons, length_nil]; omega) rfl (fun v3 h3 hs3 => ?_)
  try refine run ?_
  exact D.fin1 [h3] _ rfl rfl ⟨h3, by simpa [Ch.all] using hs3, rfl⟩
theorem members_ct {c : Ch} (ok : ChOk c) :
  Ct prog 85 [.agg (List.toArray c.cfg.enc)] [] (fun r H' => ∃ h', IsSl 31 c.all r h' ∧ H' = [h']) :=
 members4_ct (by have := ok.l4; omega)
theorem node_ct (n : Int) : Ct prog 132 [.int .i64 n] [] (fun r H' => r = .bool (decide (0 ≤ n ∧ n < 4)) ∧ H' = []) := by
 refine Ct.mk' func132 rfl rfl rfl (fun g R => ?_)
 try simp only [ca]
 simp only [na]
 by_cases h0 : 0 ≤ n
 ·try refine run ?_
  exact D.fin1 [] _ rfl rfl ⟨by simp [h0], rfl⟩
 ·try refine run ?_
  exact D.fin1 [] _ rfl rfl ⟨by simp [h0], rfl⟩
def seenL (l : List Mem) : List Value := [.bool (l.any fun m => m.nd == 0), .bool (l.any fun m => m.nd == 1), .bool (l.any fun m => m.nd == 2), .bool (l.any fun m => m.nd == 3)]
theorem seen_get {l : List Mem} {n : Int} (h0 : 0 ≤ n) (h4 : n < 4) : (seenL l)[n.toNat]? = some (.bool (l.any fun m => m.nd == n)) := by
 rcases (by omega : n = 0 ∨ n = 1 ∨ n = 2 ∨ n = 3) with rfl | rfl | rfl | rfl <;> rfl
theorem seen_set {l : List Mem} {m : Mem} (h0 : 0 ≤ m.nd) (h4 : m.nd < 4) : (seenL l).set m.nd.toNat (.bool true) = seenL (l ++ [m]) := by
 unfold seenL
 rcases (by omega : m.nd = 0 ∨ m.nd = 1 ∨ m.nd = 2 ∨ m.nd = 3) with h | h | h | h <;> rw [h] <;> simp [any_append, h]
theorem not_seen {c : Ch} (ok : ChOk c) {k : Nat} {m : Mem} (hk : c.all[k]? = some m) : ((c.all.take k).any fun x => x.nd == m.nd) = false := by
 rw [any_eq_false]
 intro x hx
 obtain ⟨h1, h2⟩ := List.getElem?_eq_some_iff.1 hk
 have e : c.all = c.all.take k ++ m :: c.all.drop (k + 1) := by rw [← h2, ← drop_eq_getElem_cons h1, take_append_drop]
 have hp := ok.up
 rw [e, map_append, map_cons, pairwise_append] at hp
 have := hp.2.2 x.nd (mem_map.2 ⟨x, hx, rfl⟩) m.nd (mem_cons_self ..)
 simpa using this
def Cfg.ms4 (x : Cfg) : List Mem := [x.f0, x.f1, x.f2, x.f3]
def chOf (x : Cfg) : Ch := ⟨x.ep, x.ms4.take x.n.toNat, if x.jo = true then some x.le else none⟩
instance (c : Ch) : Decidable (ChOk c) := decidable_of_iff (1 ≤ c.ep ∧ c.ep ≤ 1099511627776 ∧ 1 ≤ c.ms.length ∧ (c.all.map (·.nd)).Pairwise (· ≠ ·) ∧ ∀ m ∈ c.all, 0 ≤ m.nd ∧ m.nd < 4 ∧ 1 ≤ m.sn ∧ m.sn ≤ c.ep)
 ⟨fun ⟨a, b, c, d, e⟩ => ⟨a, b, c, d, e⟩, fun ⟨a, b, c, d, e⟩ => ⟨a, b, c, d, e⟩⟩
abbrev RightC (x : Cfg) : Prop := (1 ≤ x.n ∧ x.n ≤ 4) ∧ (chOf x).cfg = x ∧ ChOk (chOf x)
theorem chOf_cfg {c : Ch} (h : c.ms.length ≤ 4) : chOf c.cfg = c := by
 obtain ⟨ep, ms, ln⟩ := c
 simp only [] at h
 have hl : (if (ln.isSome) = true then some (ln.getD Mem.z) else none) = ln := by cases ln <;> rfl
 have h2 : (if (Ch.cfg ⟨ep, ms, ln⟩).jo = true then some (Ch.cfg ⟨ep, ms, ln⟩).le else none) = ln := hl
 unfold chOf
 rw [h2]
 match ms, h with
 | [], _ => rfl
 | [_], _ => rfl
 | [_, _], _ => rfl
 | [_, _, _], _ => rfl
 | [_, _, _, _], _ => rfl
theorem rightC_of {c : Ch} (ok : ChOk c) : RightC c.cfg := by
 have h4 := ok.l4
 have h1 := ok.l1
 have e := chOf_cfg (c := c) (by omega)
 exact ⟨⟨by show (1 : Int) ≤ (c.ms.length : Int); omega, by show (c.ms.length : Int) ≤ 4; omega⟩, by rw [e], by rw [e]; exact ok⟩
theorem rest_rs (x : Cfg) (b : Nat) {k : Nat} (hk : k ≤ 4) : Rs (x.ms4.drop k) (.slice (some (arAt b 2 2 4 k)) (4 - k) (4 - k)) (CfBk b x) := by
 rcases (by omega : k = 0 ∨ k = 1 ∨ k = 2 ∨ k = 3 ∨ k = 4) with rfl | rfl | rfl | rfl | rfl
 ·exact Rs.part (pre := x.enc.take 2) (post := x.enc.drop 10) (xs := x.ms4) rfl rfl (Nat.le_refl _)
 ·exact Rs.part (pre := x.enc.take 4) (post := x.enc.drop 10) (xs := x.ms4.drop 1) rfl rfl (Nat.le_refl _)
 ·exact Rs.part (pre := x.enc.take 6) (post := x.enc.drop 10) (xs := x.ms4.drop 2) rfl rfl (Nat.le_refl _)
 ·exact Rs.part (pre := x.enc.take 8) (post := x.enc.drop 10) (xs := x.ms4.drop 3) rfl rfl (Nat.le_refl _)
 ·exact Rs.none _ rfl
theorem cfg_rest {x : Cfg} {k : Nat} (hk : x.n = (k : Int)) (hk4 : k ≤ 4) (h : (chOf x).cfg = x) : ∀ m ∈ x.ms4.drop k, m = Mem.z := by
 obtain ⟨ep, n, f0, f1, f2, f3, jo, le⟩ := x
 simp only [] at hk
 subst hk
 rcases (by omega : k = 0 ∨ k = 1 ∨ k = 2 ∨ k = 3 ∨ k = 4) with rfl | rfl | rfl | rfl | rfl <;> simp [chOf, Ch.cfg, Cfg.ms4] at h ⊢ <;> grind
theorem cfg_learn {x : Cfg} (h : (chOf x).cfg = x) (hj : x.jo = false) : x.le = Mem.z := by
 have e : (chOf x).cfg.le = (if x.jo = true then some x.le else none).getD Mem.z := rfl
 rw [h, hj] at e
 exact e
theorem cfg_back {x : Cfg} {k : Nat} (hk : x.n = (k : Int)) (hk4 : k ≤ 4) (h1 : ∀ m ∈ x.ms4.drop k, m = Mem.z) (h2 : x.jo = false → x.le = Mem.z) : (chOf x).cfg = x := by
 obtain ⟨ep, n, f0, f1, f2, f3, jo, le⟩ := x
 simp only [] at hk h2
 subst hk
 rcases (by omega : k = 0 ∨ k = 1 ∨ k = 2 ∨ k = 3 ∨ k = 4) with rfl | rfl | rfl | rfl | rfl <;> cases jo <;> simp [chOf, Ch.cfg, Cfg.ms4] at h1 h2 ⊢ <;> simp [h1, h2]
def MemsOk (c : Ch) (k : Nat) : Prop := ∀ (i : Nat) (m : Mem), i < k → c.all[i]? = some m → (0 ≤ m.nd ∧ m.nd < 4 ∧ 1 ≤ m.sn ∧ m.sn ≤ c.ep) ∧ ∀ (j : Nat) (m' : Mem), j < i → c.all[j]? = some m' → m'.nd ≠ m.nd
theorem MemsOk.all {c : Ch} (h : MemsOk c c.all.length) (e1 : 1 ≤ c.ep) (e2 : c.ep ≤ 1099511627776) (l1 : 1 ≤ c.ms.length) : ChOk c := by
 refine ⟨e1, e2, l1, ?_, fun m hm => ?_⟩
 ·rw [pairwise_iff_getElem]
  intro i j hi hj hij
  rw [length_map] at hi hj
  rw [getElem_map, getElem_map]
  exact (h j _ hj (List.getElem?_eq_getElem hj)).2 i _ hij (List.getElem?_eq_getElem hi)
 ·obtain ⟨i, hi⟩ := mem_iff_getElem?.1 hm
  exact (h i m (List.getElem?_eq_some_iff.1 hi).1 hi).1
theorem ChOk.mems {c : Ch} (ok : ChOk c) (k : Nat) : MemsOk c k := fun i m _ hi => ⟨ok.rg m (mem_of_getElem? hi), fun j m' hj hm' => by
 have hp := ok.up
 rw [pairwise_iff_getElem] at hp
 obtain ⟨a1, a2⟩ := List.getElem?_eq_some_iff.1 hi
 obtain ⟨b1, b2⟩ := List.getElem?_eq_some_iff.1 hm'
 have := hp j i (by rw [length_map]; exact b1) (by rw [length_map]; exact a1) hj
 rw [getElem_map, getElem_map, a2, b2] at this
 exact this⟩
theorem seen_any {c : Ch} {k : Nat} {m : Mem} (hk : c.all[k]? = some m) : ((c.all.take k).any fun x => x.nd == m.nd) = false ↔ ∀ (j : Nat) (m' : Mem), j < k → c.all[j]? = some m' → m'.nd ≠ m.nd := by
 rw [any_eq_false]
 constructor
 ·intro h j m' hj hm'
  have := h m' (mem_iff_getElem?.2 ⟨j, by rw [List.getElem?_take, if_pos hj]; exact hm'⟩)
  simpa using this
 ·intro h x hx
  obtain ⟨j, hj⟩ := mem_iff_getElem?.1 hx
  have hlt := (List.getElem?_eq_some_iff.1 hj).1
  rw [length_take] at hlt
  rw [List.getElem?_take, if_pos (by omega)] at hj
  have := h j x (by omega) hj
  simpa using this
theorem mem_cells (m m' : Mem) : cellsEq [.i, .i] m.enc m'.enc = some (decide (m = m')) := by
 obtain ⟨a, b⟩ := m
 obtain ⟨a', b'⟩ := m'
 obtain ⟨r, e, i⟩ := cellsEq_iff (ks := [.i, .i]) (xs := Mem.enc ⟨a, b⟩) (ys := Mem.enc ⟨a', b'⟩) rfl rfl
 rw [e]
 congr 1
 have h2 : (Mem.enc ⟨a, b⟩ = Mem.enc ⟨a', b'⟩) ↔ (Mem.mk a b = Mem.mk a' b') := by
  constructor
  ·intro h; cases h; rfl
  ·intro h; cases h; rfl
 rw [h2] at i
 by_cases hb : Mem.mk a b = Mem.mk a' b'
 ·rw [decide_eq_true hb, i.2 hb]
 ·rw [decide_eq_false hb]
  cases r with
  | false => rfl
  | true => exact absurd (i.1 rfl) hb
set_option maxRecDepth 20000 in
theorem rightG_ct (x : Cfg) : Ct prog 84 [.agg (List.toArray x.enc)] [] (fun r H' => r = .bool (decide (RightC x)) ∧ H' = []) := by
 by_cases hbad : ¬ (1 ≤ x.ep ∧ x.ep ≤ 1099511627776 ∧ 1 ≤ x.n ∧ x.n ≤ 4)
 ·have hno : ¬ RightC x := fun ⟨h1, h2, h3⟩ => hbad ⟨h3.e1, h3.e2, h1⟩
  rw [decide_eq_false hno]
  clear hno
  refine Ct.mk' func84 rfl rfl rfl (fun g R => ?_)
  try simp only [ca]
  simp only [na]
  by_cases g1 : x.ep < 1
  ·repeat' (first | refine run ?_ | refine bx rfl (fun _ => ?_) | fail)
   exact D.fin1 [] _ rfl rfl ⟨rfl, rfl⟩
  by_cases g2 : 1099511627776 < x.ep
  ·repeat' (first | refine run ?_ | refine bx rfl (fun _ => ?_) | fail)
   exact D.fin1 [] _ rfl rfl ⟨rfl, rfl⟩
  by_cases g3 : x.n < 1
  ·repeat' (first | refine run ?_ | refine bx rfl (fun _ => ?_) | fail)
   exact D.fin1 [] _ rfl rfl ⟨rfl, rfl⟩
  have g4 : 4 < x.n := by omega
  repeat' (first | refine run ?_ | refine bx rfl (fun _ => ?_) | fail)
  exact D.fin1 [] _ rfl rfl ⟨rfl, rfl⟩
 obtain ⟨he1, he2, hn1, hn4⟩ := Classical.not_not.1 hbad
 clear hbad
 obtain ⟨k, hk⟩ : ∃ k : Nat, x.n = (k : Int) := ⟨x.n.toNat, by omega⟩
 have hk4 : k ≤ 4 := by omega
 have hk1 : 1 ≤ k := by omega
 have hrs := fun b => rest_rs x b hk4
 have hrl : (x.ms4.drop k).length = 4 - k := by rw [length_drop]; rfl
 have hzr := cfg_rest hk hk4
 have hbk := cfg_back hk hk4
 refine Ct.mk' func84 rfl rfl rfl (fun g R => ?_)
 try simp only [ca]
 simp only [na]
 repeat' (first | refine run ?_ | refine bx rfl (fun _ => ?_) | fail)
 rename_i b
 refine WX.arFrom (lo := k) rfl (by rw [← hk]; rfl) hk4 rfl ?_
 try refine run ?_
 have hz := hrs b
 refine W.loop (α := Nat) (fun j => j ≤ 4 - k ∧ ∀ (i : Nat) (m : Mem), i < j → (x.ms4.drop k)[i]? = some m → m = Mem.z) (fun j => [(1, .pointer (some ⟨b, 0, none⟩)), (29, .slice (some (arAt b 2 2 4 k)) (4 - k) (4 - k)), (30, .int .i64 (4 - k : Nat)), (31, .int .i64 (j : Int))]) (fun _ => [CfBk b x, R]) (fun j => 4 - k - j) 0 ⟨Nat.zero_le _, fun i m hi => absurd hi (Nat.not_lt_zero _)⟩ (by repeat (first | exact Fsub.nil | refine Fsub.cons rfl ?_)) (Hsub.of_picks inferInstance) ?_
 rintro j ⟨hj, hall⟩
 by_cases hlt : j < 4 - k
 ·obtain ⟨m, hm⟩ : ∃ m, (x.ms4.drop k)[j]? = some m := ⟨_, List.getElem?_eq_getElem (by omega)⟩
  have tm := mem_cells m Mem.z
  by_cases hmz : m = Mem.z
  ·rw [decide_eq_true hmz] at tm
   repeat' (first | refine run ?_ | refine al (fun _ => ?_) | refine WX.neqA rfl rfl tm rfl ?_ | fail)
   refine D.rd (j + 1) ⟨by omega, fun i p hi hp => ?_⟩ (by omega)
   rcases Nat.lt_or_ge i j with h | h
   ·exact hall i p h hp
   ·obtain rfl : i = j := by omega
    rw [hm] at hp
    cases hp
    exact hmz
  ·have hno : ¬ RightC x := fun ⟨_, h2, _⟩ => hmz (hzr h2 m (mem_of_getElem? hm))
   rw [decide_eq_false hmz] at tm
   repeat' (first | refine run ?_ | refine al (fun _ => ?_) | refine WX.neqA rfl rfl tm rfl ?_ | fail)
   exact D.fin1 [] _ rfl rfl ⟨by rw [decide_eq_false hno], rfl⟩
 obtain rfl : j = 4 - k := by omega
 have hrest : ∀ m ∈ x.ms4.drop k, m = Mem.z := fun m hm => by
  obtain ⟨i, hi⟩ := mem_iff_getElem?.1 hm
  have := (List.getElem?_eq_some_iff.1 hi).1
  exact hall i m (by omega) hi
 have tl := mem_cells x.le Mem.z
 by_cases hle : x.jo = false ∧ x.le ≠ Mem.z
 ·have hno : ¬ RightC x := fun ⟨_, h2, _⟩ => hle.2 (cfg_learn h2 hle.1)
  rw [decide_eq_false hle.2] at tl
  have hj := hle.1
  try refine run ?_
  rw [hj]
  repeat' (first | refine run ?_ | refine WX.neqA rfl rfl tl rfl ?_ | fail)
  exact D.fin1 [] _ rfl rfl ⟨by rw [decide_eq_false hno], rfl⟩
 have hcx := hbk hrest (fun h => Classical.byContradiction fun h' => hle ⟨h, h'⟩)
 obtain ⟨c, hc⟩ : ∃ c, chOf x = c := ⟨_, rfl⟩
 have hiff : RightC x ↔ ChOk c := by rw [← hc]; exact ⟨fun h => h.2.2, fun h => ⟨⟨hn1, hn4⟩, hcx, h⟩⟩
 have hd : decide (RightC x) = decide (ChOk c) := by rw [decide_eq_decide]; exact hiff
 rw [hd]
 rw [hc] at hcx
 subst hcx
 clear hd hiff hbk hrest hzr hc
 have hkl : c.ms.length = k := by have : (c.ms.length : Int) = (k : Int) := hk; omega
 have hmc := members4_ct (c := c) (by omega)
 have hal5 : c.all.length ≤ 5 := by
  unfold Ch.all; rw [length_append]; have : c.ln.toList.length ≤ 1 := (by cases c.ln <;> simp); omega
 cases hl : c.ln with
 | none =>
  have hj : c.cfg.jo = false := by show c.ln.isSome = false; rw [hl]; rfl
  have hle : c.cfg.le = Mem.z := by show c.ln.getD Mem.z = Mem.z; rw [hl]; rfl
  try refine run ?_
  rw [hj]
  try refine run ?_
  refine WX.neqA (b := true) (xs := Mem.enc c.cfg.le) rfl rfl (by rw [hle]; rfl) rfl ?_
  repeat' (first | refine run ?_ | refine al (fun _ => ?_) | fail)
  rename_i b5
  refine WX.call rfl hmc rfl ?_
  rintro _ _ ⟨hm, hsm, rfl⟩
  have hrm := hsm.rs
  obtain ⟨vp, vc, rfl⟩ := hrm.len
  simp only [ca, na]
  try refine run ?_
  refine W.flat (H' := [hm, [(b5, .cells (List.toArray (seenL (c.all.take 0))) 175 (0, 0))], CfBk b c.cfg, R]) rfl ?_
  refine W.loop (α := Nat) (fun q => q ≤ c.all.length ∧ MemsOk c q) (fun q => [(1, .pointer (some ⟨b, 0, none⟩)), (5, .pointer (some ⟨b5, 0, none⟩)), (49, .slice vp c.all.length vc), (50, .int .i64 (c.all.length : Nat)), (51, .int .i64 (q : Int))]) (fun q => [[(b5, .cells (List.toArray (seenL (c.all.take q))) 175 (0, 0))], CfBk b c.cfg, hm, R]) (fun q => c.all.length - q) 0 ⟨Nat.zero_le _, fun i m hi => absurd hi (Nat.not_lt_zero _)⟩ (by repeat (first | exact Fsub.nil | refine Fsub.cons rfl ?_)) (Hsub.of_picks inferInstance) ?_
  rintro q ⟨hq, hmo⟩
  by_cases hlt : q < c.all.length
  ·obtain ⟨m, hmk⟩ : ∃ m, c.all[q]? = some m := ⟨_, List.getElem?_eq_getElem hlt⟩
   have hsn := seen_any hmk
   have hwhy : ∀ ok : ChOk c, (0 ≤ m.nd ∧ m.nd < 4 ∧ 1 ≤ m.sn ∧ m.sn ≤ c.ep) ∧ ((c.all.take q).any fun x => x.nd == m.nd) = false := fun ok => by
    obtain ⟨w1, w2⟩ := ok.mems (q + 1) q m (by omega) hmk
    exact ⟨w1, hsn.2 w2⟩
   by_cases r0 : 0 ≤ m.nd ∧ m.nd < 4
   ·obtain ⟨r1, r2⟩ := r0
    have hsg := seen_get (l := c.all.take q) r1 r2
    have hsg2 : (seenL (c.all.take q))[0 + m.nd.toNat * 1]? = some (.bool ((c.all.take q).any fun x => x.nd == m.nd)) := by rw [Nat.zero_add, Nat.mul_one]; exact hsg
    have hsl : Nat.blt (0 + m.nd.toNat * 1) (seenL (c.all.take q)).length = true := Nat.ble_eq_true_of_le (by show 0 + m.nd.toNat * 1 + 1 ≤ 4; omega)
    cases hany : ((c.all.take q).any fun x => x.nd == m.nd) with
    | true =>
     have hno : ¬ ChOk c := fun ok => by have := (hwhy ok).2; rw [hany] at this; cases this
     rw [hany] at hsg2
     repeat' (first | refine run ?_ | refine al (fun _ => ?_) | fail)
     refine WX.callQ rfl (node_ct m.nd) rfl ?_
     rw [decide_eq_true (⟨r1, r2⟩ : 0 ≤ m.nd ∧ m.nd < 4)]
     try refine run ?_
     refine WX.load rfl hsg2 rfl ?_
     try refine run ?_
     exact D.fin1 [] _ rfl rfl ⟨by rw [decide_eq_false hno], rfl⟩
    | false =>
     rw [hany] at hsg2
     by_cases r5 : 1 ≤ m.sn ∧ m.sn ≤ c.cfg.ep
     ·obtain ⟨r3, r4⟩ := r5
      have hst : (seenL (c.all.take q)).set (0 + m.nd.toNat * 1) (.bool true) = seenL (c.all.take (q + 1)) := by rw [Nat.zero_add, Nat.mul_one, seen_set r1 r2, take_add_one, hmk]; rfl
      repeat' (first | refine run ?_ | refine al (fun _ => ?_) | fail)
      refine WX.callQ rfl (node_ct m.nd) rfl ?_
      rw [decide_eq_true (⟨r1, r2⟩ : 0 ≤ m.nd ∧ m.nd < 4)]
      try refine run ?_
      refine WX.load rfl hsg2 rfl ?_
      try refine run ?_
      refine WX.store rfl rfl rfl hsl ?_
      rw [hst]
      try refine run ?_
      refine D.rd (q + 1) ⟨by omega, fun i p hi hp => ?_⟩ (by omega)
      rcases Nat.lt_or_ge i q with h | h
      ·exact hmo i p h hp
      ·obtain rfl : i = q := by omega
       rw [hmk] at hp
       cases hp
       exact ⟨⟨r1, r2, r3, r4⟩, hsn.1 hany⟩
     ·have hno : ¬ ChOk c := fun ok => r5 ⟨(hwhy ok).1.2.2.1, (hwhy ok).1.2.2.2⟩
      by_cases r3 : m.sn < 1
      ·repeat' (first | refine run ?_ | refine al (fun _ => ?_) | fail)
       refine WX.callQ rfl (node_ct m.nd) rfl ?_
       rw [decide_eq_true (⟨r1, r2⟩ : 0 ≤ m.nd ∧ m.nd < 4)]
       try refine run ?_
       refine WX.load rfl hsg2 rfl ?_
       try refine run ?_
       exact D.fin1 [] _ rfl rfl ⟨by rw [decide_eq_false hno], rfl⟩
      ·have r4 : c.cfg.ep < m.sn := by omega
       repeat' (first | refine run ?_ | refine al (fun _ => ?_) | fail)
       refine WX.callQ rfl (node_ct m.nd) rfl ?_
       rw [decide_eq_true (⟨r1, r2⟩ : 0 ≤ m.nd ∧ m.nd < 4)]
       try refine run ?_
       refine WX.load rfl hsg2 rfl ?_
       try refine run ?_
       exact D.fin1 [] _ rfl rfl ⟨by rw [decide_eq_false hno], rfl⟩
   ·have hno : ¬ ChOk c := fun ok => r0 ⟨(hwhy ok).1.1, (hwhy ok).1.2.1⟩
    repeat' (first | refine run ?_ | refine al (fun _ => ?_) | fail)
    refine WX.callQ rfl (node_ct m.nd) rfl ?_
    rw [decide_eq_false r0]
    try refine run ?_
    exact D.fin1 [] _ rfl rfl ⟨by rw [decide_eq_false hno], rfl⟩
  ·obtain rfl : q = c.all.length := by omega
   have hyes : ChOk c := hmo.all he1 he2 (by omega)
   try refine run ?_
   exact D.fin1 [] _ rfl rfl ⟨by rw [decide_eq_true hyes], rfl⟩
 | some m =>
  have hj : c.cfg.jo = true := by show c.ln.isSome = true; rw [hl]; rfl
  try refine run ?_
  rw [hj]
  repeat' (first | refine run ?_ | refine al (fun _ => ?_) | fail)
  rename_i b5
  refine WX.call rfl hmc rfl ?_
  rintro _ _ ⟨hm, hsm, rfl⟩
  have hrm := hsm.rs
  obtain ⟨vp, vc, rfl⟩ := hrm.len
  simp only [ca, na]
  try refine run ?_
  refine W.flat (H' := [hm, [(b5, .cells (List.toArray (seenL (c.all.take 0))) 175 (0, 0))], CfBk b c.cfg, R]) rfl ?_
  refine W.loop (α := Nat) (fun q => q ≤ c.all.length ∧ MemsOk c q) (fun q => [(1, .pointer (some ⟨b, 0, none⟩)), (5, .pointer (some ⟨b5, 0, none⟩)), (49, .slice vp c.all.length vc), (50, .int .i64 (c.all.length : Nat)), (51, .int .i64 (q : Int))]) (fun q => [[(b5, .cells (List.toArray (seenL (c.all.take q))) 175 (0, 0))], CfBk b c.cfg, hm, R]) (fun q => c.all.length - q) 0 ⟨Nat.zero_le _, fun i m hi => absurd hi (Nat.not_lt_zero _)⟩ (by repeat (first | exact Fsub.nil | refine Fsub.cons rfl ?_)) (Hsub.of_picks inferInstance) ?_
  rintro q ⟨hq, hmo⟩
  by_cases hlt : q < c.all.length
  ·obtain ⟨m, hmk⟩ : ∃ m, c.all[q]? = some m := ⟨_, List.getElem?_eq_getElem hlt⟩
   have hsn := seen_any hmk
   have hwhy : ∀ ok : ChOk c, (0 ≤ m.nd ∧ m.nd < 4 ∧ 1 ≤ m.sn ∧ m.sn ≤ c.ep) ∧ ((c.all.take q).any fun x => x.nd == m.nd) = false := fun ok => by
    obtain ⟨w1, w2⟩ := ok.mems (q + 1) q m (by omega) hmk
    exact ⟨w1, hsn.2 w2⟩
   by_cases r0 : 0 ≤ m.nd ∧ m.nd < 4
   ·obtain ⟨r1, r2⟩ := r0
    have hsg := seen_get (l := c.all.take q) r1 r2
    have hsg2 : (seenL (c.all.take q))[0 + m.nd.toNat * 1]? = some (.bool ((c.all.take q).any fun x => x.nd == m.nd)) := by rw [Nat.zero_add, Nat.mul_one]; exact hsg
    have hsl : Nat.blt (0 + m.nd.toNat * 1) (seenL (c.all.take q)).length = true := Nat.ble_eq_true_of_le (by show 0 + m.nd.toNat * 1 + 1 ≤ 4; omega)
    cases hany : ((c.all.take q).any fun x => x.nd == m.nd) with
    | true =>
     have hno : ¬ ChOk c := fun ok => by have := (hwhy ok).2; rw [hany] at this; cases this
     rw [hany] at hsg2
     repeat' (first | refine run ?_ | refine al (fun _ => ?_) | fail)
     refine WX.callQ rfl (node_ct m.nd) rfl ?_
     rw [decide_eq_true (⟨r1, r2⟩ : 0 ≤ m.nd ∧ m.nd < 4)]
     try refine run ?_
     refine WX.load rfl hsg2 rfl ?_
     try refine run ?_
     exact D.fin1 [] _ rfl rfl ⟨by rw [decide_eq_false hno], rfl⟩
    | false =>
     rw [hany] at hsg2
     by_cases r5 : 1 ≤ m.sn ∧ m.sn ≤ c.cfg.ep
     ·obtain ⟨r3, r4⟩ := r5
      have hst : (seenL (c.all.take q)).set (0 + m.nd.toNat * 1) (.bool true) = seenL (c.all.take (q + 1)) := by rw [Nat.zero_add, Nat.mul_one, seen_set r1 r2, take_add_one, hmk]; rfl
      repeat' (first | refine run ?_ | refine al (fun _ => ?_) | fail)
      refine WX.callQ rfl (node_ct m.nd) rfl ?_
      rw [decide_eq_true (⟨r1, r2⟩ : 0 ≤ m.nd ∧ m.nd < 4)]
      try refine run ?_
      refine WX.load rfl hsg2 rfl ?_
      try refine run ?_
      refine WX.store rfl rfl rfl hsl ?_
      rw [hst]
      try refine run ?_
      refine D.rd (q + 1) ⟨by omega, fun i p hi hp => ?_⟩ (by omega)
      rcases Nat.lt_or_ge i q with h | h
      ·exact hmo i p h hp
      ·obtain rfl : i = q := by omega
       rw [hmk] at hp
       cases hp
       exact ⟨⟨r1, r2, r3, r4⟩, hsn.1 hany⟩
     ·have hno : ¬ ChOk c := fun ok => r5 ⟨(hwhy ok).1.2.2.1, (hwhy ok).1.2.2.2⟩
      by_cases r3 : m.sn < 1
      ·repeat' (first | refine run ?_ | refine al (fun _ => ?_) | fail)
       refine WX.callQ rfl (node_ct m.nd) rfl ?_
       rw [decide_eq_true (⟨r1, r2⟩ : 0 ≤ m.nd ∧ m.nd < 4)]
       try refine run ?_
       refine WX.load rfl hsg2 rfl ?_
       try refine run ?_
       exact D.fin1 [] _ rfl rfl ⟨by rw [decide_eq_false hno], rfl⟩
      ·have r4 : c.cfg.ep < m.sn := by omega
       repeat' (first | refine run ?_ | refine al (fun _ => ?_) | fail)
       refine WX.callQ rfl (node_ct m.nd) rfl ?_
       rw [decide_eq_true (⟨r1, r2⟩ : 0 ≤ m.nd ∧ m.nd < 4)]
       try refine run ?_
       refine WX.load rfl hsg2 rfl ?_
       try refine run ?_
       exact D.fin1 [] _ rfl rfl ⟨by rw [decide_eq_false hno], rfl⟩
   ·have hno : ¬ ChOk c := fun ok => r0 ⟨(hwhy ok).1.1, (hwhy ok).1.2.1⟩
    repeat' (first | refine run ?_ | refine al (fun _ => ?_) | fail)
    refine WX.callQ rfl (node_ct m.nd) rfl ?_
    rw [decide_eq_false r0]
    try refine run ?_
    exact D.fin1 [] _ rfl rfl ⟨by rw [decide_eq_false hno], rfl⟩
  ·obtain rfl : q = c.all.length := by omega
   have hyes : ChOk c := hmo.all he1 he2 (by omega)
   try refine run ?_
   exact D.fin1 [] _ rfl rfl ⟨by rw [decide_eq_true hyes], rfl⟩
theorem right_ct {c : Ch} (ok : ChOk c) : Ct prog 84 [.agg (List.toArray c.cfg.enc)] [] (fun r H' => r = .bool true ∧ H' = []) := by
 have h := rightG_ct c.cfg
 rw [decide_eq_true (rightC_of ok)] at h
 exact h
end Go.Proofs.YtejfahjgfedliaaGreat

namespace Go.Proofs.YtejfahjgfedliaaGreat
open Go Go.Sl Go.Proofs.Tryz
def chRes (o : Option Ch) : Value := .tuple (List.toArray [.agg (List.toArray (match o with | some c => c.cfg | none => Cfg.z).enc), .bool o.isSome])
def partM (k i : Nat) : Mem := if i < k then ⟨(i : Int), 1⟩ else Mem.z
def partC (n k : Nat) : Cfg := ⟨1, (n : Int), partM k 0, partM k 1, partM k 2, partM k 3, false, Mem.z⟩
theorem partC_all {n : Nat} (h1 : 1 ≤ n) (h4 : n ≤ 4) : partC n n = (firstCh n).cfg := by
 match n, h1, h4 with
 | 1, _, _ => rfl
 | 2, _, _ => rfl
 | 3, _, _ => rfl
 | 4, _, _ => rfl
theorem first_ct {n : Nat} (h1 : 1 ≤ n) (h4 : n ≤ 4) : Ct prog 43 [.int .i64 (n : Int)] [] (fun r H' => r = chRes (some (firstCh n)) ∧ H' = []) := by
 have hz : Cfg.enc (partC n 0) = Cfg.enc ⟨1, (n : Int), Mem.z, Mem.z, Mem.z, Mem.z, false, Mem.z⟩ := rfl
 refine Ct.mk' func43 rfl rfl rfl (fun g R => ?_)
 try simp only [ca]
 simp only [na]
 repeat' (first | refine run ?_ | refine al (fun _ => ?_) | fail)
 rename_i b2 b4
 refine W.flat (H' := [CfBk b4 (partC n 0), CfBk b2 Cfg.z, R]) rfl ?_
 refine W.loop (α := Nat) (fun k => k ≤ n) (fun k => [(2, .pointer (some ⟨b2, 0, none⟩)), (3, .bool false), (4, .pointer (some ⟨b4, 0, none⟩)), (15, .int .i64 (n : Int)), (16, .int .i64 (k : Int))]) (fun k => [CfBk b4 (partC n k), CfBk b2 Cfg.z, R]) (fun k => n - k) 0 (Nat.zero_le _) (by repeat (first | exact Fsub.nil | refine Fsub.cons rfl ?_)) (Hsub.of_picks inferInstance) ?_
 intro k hk
 by_cases hlt : k < n
 ·rcases (by omega : k = 0 ∨ k = 1 ∨ k = 2 ∨ k = 3) with rfl | rfl | rfl | rfl
  ·try refine run ?_
   refine D.flat (H' := [CfBk b4 (partC n (0 + 1)), CfBk b2 Cfg.z, R]) rfl ?_
   exact D.rd (0 + 1) (by omega) (by omega)
  ·try refine run ?_
   refine D.flat (H' := [CfBk b4 (partC n (1 + 1)), CfBk b2 Cfg.z, R]) rfl ?_
   exact D.rd (1 + 1) (by omega) (by omega)
  ·try refine run ?_
   refine D.flat (H' := [CfBk b4 (partC n (2 + 1)), CfBk b2 Cfg.z, R]) rfl ?_
   exact D.rd (2 + 1) (by omega) (by omega)
  ·try refine run ?_
   refine D.flat (H' := [CfBk b4 (partC n (3 + 1)), CfBk b2 Cfg.z, R]) rfl ?_
   exact D.rd (3 + 1) (by omega) (by omega)
 ·obtain rfl : k = n := by omega
  rw [partC_all h1 h4]
  try refine run ?_
  exact D.finR [] _ rfl (.cellA rfl rfl (.tmp rfl .nil)) rfl ⟨rfl, rfl⟩
abbrev NBk (nb : Nat) (k : Int) : Hp := [(nb, .cells (List.toArray [.int .i64 k]) 3 (0, 0))]
def plc (ms : List Mem) (k : Int) : Int := match ms.findIdx? (fun p => decide (p.nd = k)) with | none => -1 | some i => (i : Int)
theorem plc_some {ms : List Mem} {k : Int} {j : Nat} {p : Mem} (hp : ms[j]? = some p) (hpk : p.nd = k) (hall : ∀ i p, i < j → ms[i]? = some p → ¬ p.nd = k) : plc ms k = (j : Int) := by
 have hf : ms.findIdx? (fun p => decide (p.nd = k)) = some j := by
  rw [List.findIdx?_eq_some_iff_getElem]
  obtain ⟨h1, h2⟩ := List.getElem?_eq_some_iff.1 hp
  refine ⟨h1, by rw [h2]; simpa using hpk, fun i hi => ?_⟩
  have := hall i _ hi (List.getElem?_eq_getElem (by omega))
  simpa using this
 unfold plc; rw [hf]
theorem plc_none {ms : List Mem} {k : Int} (hall : ∀ p ∈ ms, ¬ p.nd = k) : plc ms k = -1 := by
 have hf : ms.findIdx? (fun p => decide (p.nd = k)) = none := by
  rw [List.findIdx?_eq_none_iff]
  intro x hx
  simpa using hall x hx
 unfold plc; rw [hf]
end Go.Proofs.YtejfahjgfedliaaGreat

namespace Go.Proofs.YtejfahjgfedliaaGreat
open Go Go.Sl
theorem up_l4 {c : Ch} (ok : ChOk c) : c.ms.length ≤ 4 := by have := ok.l4; omega
end Go.Proofs.YtejfahjgfedliaaGreat

namespace Go.Proofs.YtejfahjgfedliaaGreat
open Go Go.Sl Go.Proofs.Tryz List
theorem nodes_ct {c : Ch} (ok : ChOk c) :
  Ct prog 40 [.agg (List.toArray c.cfg.enc)] [] (fun r H' => ∃ h', IsSl 3 (c.all.map (·.nd)) r h' ∧ H' = [h']) := by
 have hall : c.all.length ≤ 4 := by have := ok.l4; unfold Ch.all; rw [length_append]; exact this
 refine Ct.mk' func40 rfl rfl rfl (fun g R => ?_)
 try simp only [ca]
 simp only [na]
 repeat' (first | refine run ?_ | refine bx rfl (fun _ => ?_) | fail)
 refine WX.callQ rfl (right_ct ok) rfl ?_
 try refine run ?_
 rename_i b
 refine WX.call rfl (members_ct ok) rfl ?_
 rintro _ _ ⟨hm, hsm, rfl⟩
 have hrm := hsm.rs
 obtain ⟨vp, vc, rfl⟩ := hrm.len
 simp only [ca, na]
 try refine run ?_
 refine W.nilH ?_
 refine W.loop (α := Nat × Value × Hp) (fun x => x.1 ≤ c.all.length ∧ IsSl 3 ((c.all.take x.1).map (·.nd)) x.2.1 x.2.2) (fun x => [(1, .pointer (some ⟨b, 0, none⟩)), (3, x.2.1), (10, .slice vp c.all.length vc), (11, .int .i64 (c.all.length : Nat)), (12, .int .i64 (x.1 : Int))]) (fun x => [x.2.2, hm, CfBk b c.cfg, R]) (fun x => c.all.length - x.1) (0, .slice none 0 0, []) ⟨Nat.zero_le _, IsSl.nil _⟩ (by repeat (first | exact Fsub.nil | refine Fsub.cons rfl ?_)) (Hsub.of_picks inferInstance) ?_
 rintro ⟨k, v, h⟩ ⟨hk, hs⟩
 simp only [] at hk hs ⊢
 have hvl : ((c.all.take k).map (·.nd)).length ≤ 4 := by rw [length_map, length_take]; omega
 by_cases hlt : k < c.all.length
 ·obtain ⟨m, hmk⟩ : ∃ m, c.all[k]? = some m := ⟨_, List.getElem?_eq_getElem hlt⟩
  repeat' (first | refine run ?_ | refine al (fun _ => ?_) | fail)
  refine I.bs ?_
  refine WX.lit (ys := [m.nd]) rfl rfl rfl rfl rfl rfl (by decide) rfl (fun v2 h2 hs2 => ?_)
  skip
  refine WX.app rfl rfl hs hs2.rs rfl rfl (by decide) (by simp only [length_cons, length_nil]; omega) rfl (fun v3 h3 hs3 => ?_)
  have hs3 : IsSl 3 ((c.all.take (k + 1)).map (·.nd)) v3 h3 := by rw [take_add_one, hmk, map_append]; exact hs3
  try refine run ?_
  exact D.rd (k + 1, v3, h3) ⟨by simp only []; omega, hs3⟩ (by simp only []; omega)
 ·obtain rfl : k = c.all.length := by omega
  rw [take_length] at hs
  try refine run ?_
  exact D.fin1 [h] _ rfl rfl ⟨h, hs, rfl⟩
def iplc (xs : List Int) (k : Int) : Int := match xs.findIdx? (fun p => decide (p = k)) with | none => -1 | some i => (i : Int)
theorem iplc_some {ms : List Int} {k : Int} {j : Nat} {p : Int} (hp : ms[j]? = some p) (hpk : p = k) (hall : ∀ i p, i < j → ms[i]? = some p → ¬ p = k) : iplc ms k = (j : Int) := by
 have hf : ms.findIdx? (fun p => decide (p = k)) = some j := by
  rw [List.findIdx?_eq_some_iff_getElem]
  obtain ⟨h1, h2⟩ := List.getElem?_eq_some_iff.1 hp
  refine ⟨h1, by rw [h2]; simpa using hpk, fun i hi => ?_⟩
  have := hall i _ hi (List.getElem?_eq_getElem (by omega))
  simpa using this
 unfold iplc; rw [hf]
theorem iplc_none {ms : List Int} {k : Int} (hall : ∀ p ∈ ms, ¬ p = k) : iplc ms k = -1 := by
 have hf : ms.findIdx? (fun p => decide (p = k)) = none := by
  rw [List.findIdx?_eq_none_iff]
  intro x hx
  simpa using hall x hx
 unfold iplc; rw [hf]
theorem index_ct {ps : List Int} {v : Value} {h : Hp} (hs : Rs ps v h) (k : Int) (hl : ps.length ≤ 1000000) :
  Ct prog 78 [v, .int .i64 k] [h] (fun r H' => r = .int .i64 (iplc ps k) ∧ H' = [h]) := by
 refine Ct.mk' func78 rfl rfl rfl (fun g R => ?_)
 try simp only [ca]
 simp only [na]
 try refine run ?_
 refine W.loop (α := Nat) (fun j => j ≤ ps.length ∧ ∀ i p, i < j → ps[i]? = some p → ¬ p = k) (fun j => [(0, v), (1, .int .i64 k), (7, .int .i64 (ps.length : Int)), (8, .int .i64 (j : Int))]) (fun _ => [h, R]) (fun j => ps.length - j) 0 ⟨Nat.zero_le _, fun i p hi => absurd hi (Nat.not_lt_zero _)⟩ (by repeat (first | exact Fsub.nil | refine Fsub.cons rfl ?_)) (Hsub.of_picks inferInstance) ?_
 rintro j ⟨hj, hall⟩
 by_cases hlt : j < ps.length
 ·obtain ⟨p, hp⟩ : ∃ p, ps[j]? = some p := ⟨_, List.getElem?_eq_getElem hlt⟩
  by_cases hpk : k = p
  ·try refine run ?_
   exact D.fin1 [h] _ rfl rfl ⟨by rw [iplc_some hp hpk.symm hall], rfl⟩
  ·try refine run ?_
   refine D.rd (j + 1) ⟨by omega, fun i p' hi hp' => ?_⟩ (by omega)
   rcases Nat.lt_or_ge i j with h | h
   ·exact hall i p' h hp'
   ·obtain rfl : i = j := by omega
    rw [hp] at hp'
    cases hp'
    exact fun e => hpk e.symm
 ·have hno : ∀ p ∈ ps, ¬ p = k := fun x hx => by
   obtain ⟨i, hi⟩ := mem_iff_getElem?.1 hx
   have hlt := (List.getElem?_eq_some_iff.1 hi).1
   exact hall i x (by omega) hi
  try refine run ?_
  exact D.fin1 [h] _ rfl rfl ⟨by rw [iplc_none hno], rfl⟩
theorem cfg_at {c : Ch} (h : c.ms.length ≤ 4) {k : Nat} {m : Mem} (hk : c.ms[k]? = some m) : ((c.cfg.enc).drop (0 + 2 + ((k : Nat) : Int).toNat * 2)).take 2 = m.enc := by
 obtain ⟨ep, ms, ln⟩ := c
 simp only [] at h hk
 have hlt := (List.getElem?_eq_some_iff.1 hk).1
 match ms, h with
 | [], _ => simp at hk
 | [a], _ =>
  rcases (by simp at hlt; omega : k = 0) with rfl
  cases hk; rfl
 | [a, a2], _ =>
  rcases (by simp at hlt; omega : k = 0 ∨ k = 1) with rfl | rfl <;> cases hk <;> rfl
 | [a, a2, a3], _ =>
  rcases (by simp at hlt; omega : k = 0 ∨ k = 1 ∨ k = 2) with rfl | rfl | rfl <;> cases hk <;> rfl
 | [a, a2, a3, a4], _ =>
  rcases (by simp at hlt; omega : k = 0 ∨ k = 1 ∨ k = 2 ∨ k = 3) with rfl | rfl | rfl | rfl <;> cases hk <;> rfl
theorem cfg_zat {c : Ch} (h : c.ms.length ≤ 4) {k : Nat} (h1 : c.ms.length ≤ k) (h2 : k < 4) : ((c.cfg.enc).drop (0 + 2 + ((k : Nat) : Int).toNat * 2)).take 2 = Mem.z.enc := by
 obtain ⟨ep, ms, ln⟩ := c
 simp only [] at h h1
 match ms, h with
 | [], _ =>
  rcases (by omega : k = 0 ∨ k = 1 ∨ k = 2 ∨ k = 3) with rfl | rfl | rfl | rfl <;> rfl
 | [a], _ =>
  rcases (by simp at h1; omega : k = 1 ∨ k = 2 ∨ k = 3) with rfl | rfl | rfl <;> rfl
 | [a, a2], _ =>
  rcases (by simp at h1; omega : k = 2 ∨ k = 3) with rfl | rfl <;> rfl
 | [a, a2, a3], _ =>
  rcases (by simp at h1; omega : k = 3) with rfl
  rfl
 | [a, a2, a3, a4], _ => simp at h1; omega
theorem dmembers_ct {c : Ch} (ok : ChOk c) :
  Ct prog 169 [.agg (List.toArray c.cfg.enc)] [] (fun r H' => ∃ h', IsSl 31 c.all r h' ∧ H' = [h']) := by
 have h4 := up_l4 ok
 have hn : c.cfg.n = (c.ms.length : Int) := rfl
 refine Ct.mk' func169 rfl rfl rfl (fun g R => ?_)
 try simp only [ca]
 simp only [na]
 repeat' (first | refine run ?_ | refine bx rfl (fun _ => ?_) | fail)
 rename_i b
 refine W.nilH ?_
 refine W.loop (α := Nat × Value × Hp) (fun x => x.1 ≤ c.ms.length ∧ IsSl 31 (c.ms.take x.1) x.2.1 x.2.2) (fun x => [(1, .pointer (some ⟨b, 0, none⟩)), (3, x.2.1), (4, .int .i64 (x.1 : Int))]) (fun x => [x.2.2, CfBk b c.cfg, R]) (fun x => c.ms.length - x.1) (0, .slice none 0 0, []) ⟨Nat.zero_le _, IsSl.nil _⟩ (by repeat (first | exact Fsub.nil | refine Fsub.cons rfl ?_)) (Hsub.of_picks inferInstance) ?_
 rintro ⟨k, v, h⟩ ⟨hk, hs⟩
 simp only [] at hk hs ⊢
 by_cases hlt : k < c.ms.length
 ·obtain ⟨m, hm⟩ : ∃ m, c.ms[k]? = some m := ⟨_, List.getElem?_eq_getElem hlt⟩
  have hat := cfg_at h4 hm
  have htl : (c.ms.take k).length ≤ 4 := by rw [length_take]; omega
  repeat' (first | refine run ?_ | refine WX.loadA rfl hat rfl rfl ?_ | fail)
  refine I.bs ?_
  refine WX.lit (ys := [m]) rfl rfl rfl rfl rfl rfl (by decide) rfl (fun v2 h2 hs2 => ?_)
  skip
  refine WX.app rfl rfl hs hs2.rs rfl rfl (by decide) (by simp only [length_cons, length_nil]; omega) rfl (fun v3 h3 hs3 => ?_)
  rw [show c.ms.take k ++ [m] = c.ms.take (k + 1) by rw [take_add_one, hm]; rfl] at hs3
  try refine run ?_
  exact D.rd (k + 1, v3, h3) ⟨by simp only []; omega, hs3⟩ (by simp only []; omega)
 ·obtain rfl : k = c.ms.length := by omega
  rw [take_length] at hs
  cases hl : c.ln with
  | none =>
   have hj : c.cfg.jo = false := by show c.ln.isSome = false; rw [hl]; rfl
   try refine run ?_
   rw [hj]
   try refine run ?_
   exact D.fin1 [h] _ rfl rfl ⟨h, by simpa [Ch.all, hl] using hs, rfl⟩
  | some m =>
   have hj : c.cfg.jo = true := by show c.ln.isSome = true; rw [hl]; rfl
   have hle : c.cfg.le = m := by show c.ln.getD Mem.z = m; rw [hl]; rfl
   try refine run ?_
   rw [hj]
   try refine run ?_
   refine I.bs ?_
   refine WX.lit (ys := [c.cfg.le]) rfl rfl rfl rfl rfl rfl (by decide) rfl (fun v2 h2 hs2 => ?_)
   rw [hle] at hs2
   skip
   refine WX.app rfl rfl hs hs2.rs rfl rfl (by decide) (by simp only [length_cons, length_nil]; omega) rfl (fun v3 h3 hs3 => ?_)
   try refine run ?_
   exact D.fin1 [h3] _ rfl rfl ⟨h3, by simpa [Ch.all, hl] using hs3, rfl⟩
theorem two_apart {c : Ch} (ok : ChOk c) {i k : Nat} {x y : Mem} (hk : k < i) (hx : c.all[k]? = some x) (hy : c.all[i]? = some y) : ¬ x.nd = y.nd := by
 have h := not_seen ok hy
 rw [any_eq_false] at h
 have := h x (mem_of_getElem? (i := k) (by rw [List.getElem?_take, if_pos hk]; exact hx))
 simpa using this
set_option maxRecDepth 20000 in
theorem dright_ct {c : Ch} (ok : ChOk c) : Ct prog 153 [.agg (List.toArray c.cfg.enc)] [] (fun r H' => r = .bool true ∧ H' = []) := by
 have h4 := up_l4 ok
 have hmc := dmembers_ct ok
 have he1 : 1 ≤ c.cfg.ep := ok.e1
 have he2 : c.cfg.ep ≤ 1099511627776 := ok.e2
 have hn1 : 1 ≤ c.cfg.n := by have := ok.l1; show (1 : Int) ≤ (c.ms.length : Int); omega
 have hn4 : c.cfg.n ≤ 4 := by show (c.ms.length : Int) ≤ 4; omega
 have hn : c.cfg.n = (c.ms.length : Int) := rfl
 have hall : c.all.length ≤ 4 := by have := ok.l4; unfold Ch.all; rw [length_append]; exact this
 refine Ct.mk' func153 rfl rfl rfl (fun g R => ?_)
 try simp only [ca]
 simp only [na]
 repeat' (first | refine run ?_ | refine bx rfl (fun _ => ?_) | fail)
 rename_i b
 refine WX.call rfl hmc rfl ?_
 rintro v _ ⟨h, hs, rfl⟩
 have hr := hs.rs
 obtain ⟨vp, vc, rfl⟩ := hr.len
 simp only [ca, na]
 try refine run ?_
 refine W.loop (α := Nat) (fun k => k ≤ c.all.length) (fun k => [(1, .pointer (some ⟨b, 0, none⟩)), (3, .slice vp c.all.length vc), (4, .int .i64 (k : Int))]) (fun _ => [h, CfBk b c.cfg, R]) (fun k => c.all.length - k) 0 (Nat.zero_le _) (by repeat (first | exact Fsub.nil | refine Fsub.cons rfl ?_)) (Hsub.of_picks inferInstance) ?_
 intro i hi
 by_cases hlt : i < c.all.length
 ·obtain ⟨m, hm⟩ : ∃ m, c.all[i]? = some m := ⟨_, List.getElem?_eq_getElem hlt⟩
  have hrg := ok.rg m (mem_of_getElem? hm)
  have hrg : 0 ≤ m.nd ∧ m.nd < 4 ∧ 1 ≤ m.sn ∧ m.sn ≤ c.cfg.ep := hrg
  try refine run ?_
  refine W.quiet Tryz.mix (by kernel_rfl) ?_
  try refine run ?_
  refine W.loop (α := Nat) (fun k => k ≤ i) (fun k => [(1, .pointer (some ⟨b, 0, none⟩)), (3, .slice vp c.all.length vc), (4, .int .i64 (i : Int)), (5, .int .i64 (k : Int))]) (fun _ => [h, CfBk b c.cfg, R]) (fun k => i - k) 0 (Nat.zero_le _) (by repeat (first | exact Fsub.nil | refine Fsub.cons rfl ?_)) (Hsub.of_picks inferInstance) ?_
  intro k hk
  by_cases hlk : k < i
  ·obtain ⟨x, hx⟩ : ∃ x, c.all[k]? = some x := ⟨_, List.getElem?_eq_getElem (by omega)⟩
   have hne := two_apart ok hlk hx hm
   try refine run ?_
   refine W.quiet Tryz.mix (by kernel_rfl) ?_
   try refine run ?_
   exact D.rd (k + 1) (by omega) (by omega)
  ·obtain rfl : k = i := by omega
   try refine run ?_
   exact D.rd (k + 1) (by omega) (by omega)
 ·obtain rfl : i = c.all.length := by omega
  try refine run ?_
  refine W.loop (α := Nat) (fun k => c.ms.length ≤ k ∧ k ≤ 4) (fun k => [(1, .pointer (some ⟨b, 0, none⟩)), (6, .int .i64 (k : Int))]) (fun _ => [CfBk b c.cfg, R]) (fun k => 4 - k) c.ms.length ⟨Nat.le_refl _, h4⟩ (by repeat (first | exact Fsub.nil | refine Fsub.cons rfl ?_)) (Hsub.of_picks inferInstance) ?_
  rintro k ⟨hk, hk4⟩
  by_cases hlk : k < 4
  ·have hz := cfg_zat h4 hk hlk
   repeat' (first | refine run ?_ | refine WX.loadA rfl hz rfl rfl ?_ | refine WX.neqA (b := true) rfl rfl rfl rfl ?_ | fail)
   exact D.rd (k + 1) ⟨by omega, by omega⟩ (by omega)
  ·cases hl : c.ln with
   | none =>
    have hj : c.cfg.jo = false := by show c.ln.isSome = false; rw [hl]; rfl
    have hle : c.cfg.le = Mem.z := by show c.ln.getD Mem.z = Mem.z; rw [hl]; rfl
    try refine run ?_
    rw [hj]
    repeat' (first | refine run ?_ | (refine I.bin ?_; refine WX.eqlA (b := true) (xs := Mem.enc c.cfg.le) rfl rfl (by rw [hle]; rfl) rfl ?_) | fail)
    exact D.fin1 [] _ rfl rfl ⟨rfl, rfl⟩
   | some m =>
    have hj : c.cfg.jo = true := by show c.ln.isSome = true; rw [hl]; rfl
    try refine run ?_
    rw [hj]
    try refine run ?_
    exact D.fin1 [] _ rfl rfl ⟨rfl, rfl⟩
theorem dplace_ct {c : Ch} (ok : ChOk c) (k : Int) : Ct prog 168 [.agg (List.toArray c.cfg.enc), .int .i64 k] [] (fun r H' => r = .int .i64 (plc c.all k) ∧ H' = []) := by
 have hall : c.all.length ≤ 4 := by have := ok.l4; unfold Ch.all; rw [length_append]; exact this
 have hrc := dright_ct ok
 have hmc := dmembers_ct ok
 refine Ct.mk' func168 rfl rfl rfl (fun g R => ?_)
 try simp only [ca]
 simp only [na]
 repeat' (first | refine run ?_ | refine bx rfl (fun _ => ?_) | refine WX.callQ rfl hrc rfl ?_ | fail)
 rename_i b
 refine WX.call rfl hmc rfl ?_
 rintro v _ ⟨h, hs, rfl⟩
 have hr := hs.rs
 obtain ⟨vp, vc, rfl⟩ := hr.len
 simp only [ca, na]
 try refine run ?_
 refine W.loop (α := Nat) (fun j => j ≤ c.all.length ∧ ∀ i p, i < j → c.all[i]? = some p → ¬ p.nd = k) (fun j => [(1, .int .i64 k), (5, .slice vp c.all.length vc), (6, .int .i64 (j : Int))]) (fun _ => [h, R]) (fun j => c.all.length - j) 0 ⟨Nat.zero_le _, fun i p hi => absurd hi (Nat.not_lt_zero _)⟩ (by repeat (first | exact Fsub.nil | refine Fsub.cons rfl ?_)) (Hsub.of_picks inferInstance) ?_
 rintro j ⟨hj, hno⟩
 by_cases hlt : j < c.all.length
 ·obtain ⟨p, hp⟩ : ∃ p, c.all[j]? = some p := ⟨_, List.getElem?_eq_getElem hlt⟩
  by_cases hpk : p.nd = k
  ·have hres := plc_some hp hpk hno
   try refine run ?_
   exact D.fin1 [] _ rfl rfl ⟨by rw [hres], rfl⟩
  ·try refine run ?_
   refine D.rd (j + 1) ⟨by omega, fun i q hi hq => ?_⟩ (by omega)
   rcases Nat.lt_or_ge i j with h | h
   ·exact hno i q h hq
   ·obtain rfl : i = j := by omega
    rw [hp] at hq
    cases hq
    exact hpk
 ·have hres : plc c.all k = -1 := plc_none (fun x hx => by
   obtain ⟨i, hi⟩ := mem_iff_getElem?.1 hx
   have hlt := (List.getElem?_eq_some_iff.1 hi).1
   exact hno i x (by omega) hi)
  try refine run ?_
  exact D.fin1 [] _ rfl rfl ⟨by rw [hres], rfl⟩
def cfO (o : Option Ch) : Cfg := match o with
 | none => Cfg.z
 | some c => c.cfg
def ChO (o : Option Ch) : Prop := ∀ c, o = some c → ChOk c
theorem ChO.none : ChO none := fun c h => by cases h
theorem ChO.some {c : Ch} (ok : ChOk c) : ChO (some c) := fun c' h => by cases h; exact ok
def nodesO (o : Option Ch) : List Int := match o with
 | none => []
 | some c => c.all.map (·.nd)
theorem nodesO_len {o : Option Ch} (ok : ChO o) : (nodesO o).length ≤ 4 := by
 cases o with
 | none => exact Nat.zero_le _
 | some c =>
  have := (ok c rfl).l4
  show (c.all.map (·.nd)).length ≤ 4
  rw [length_map]; unfold Ch.all; rw [length_append]; exact this
theorem right_z : ¬ RightC Cfg.z := fun h => absurd h.1.1 (by decide)
theorem nodesO_ct {o : Option Ch} (ok : ChO o) :
  Ct prog 40 [.agg (List.toArray (cfO o).enc)] [] (fun r H' => ∃ h', IsSl 3 (nodesO o) r h' ∧ H' = [h']) := by
 cases o with
 | some c => exact nodes_ct (ok c rfl)
 | none =>
  have hr := rightG_ct Cfg.z
  rw [decide_eq_false right_z] at hr
  refine Ct.mk' func40 rfl rfl rfl (fun g R => ?_)
  try simp only [ca]
  simp only [na]
  repeat' (first | refine run ?_ | refine bx rfl (fun _ => ?_) | refine WX.callQ rfl hr rfl ?_ | fail)
  refine D.nilH ?_
  exact D.fin1 [[]] _ rfl rfl ⟨[], IsSl.nil _, rfl⟩
def atL (xs : List Int) (i : Int) : Int := if i < 0 ∨ (xs.length : Int) ≤ i then -1 else xs.getD i.toNat 0
theorem at_ct {xs : List Int} {v : Value} {h : Hp} (hs : Rs xs v h) (i : Int) :
  Ct prog 79 [v, .int .i64 i] [h] (fun r H' => r = .int .i64 (atL xs i) ∧ H' = [h]) := by
 refine Ct.mk' func79 rfl rfl rfl (fun g R => ?_)
 try simp only [ca]
 simp only [na]
 by_cases h0 : i < 0
 ·have e : atL xs i = -1 := by unfold atL; rw [if_pos (.inl h0)]
  rw [e]
  try refine run ?_
  exact D.fin1 [h] _ rfl rfl ⟨rfl, rfl⟩
 ·by_cases h1 : (xs.length : Int) ≤ i
  ·have e : atL xs i = -1 := by unfold atL; rw [if_pos (.inr h1)]
   rw [e]
   try refine run ?_
   exact D.fin1 [h] _ rfl rfl ⟨rfl, rfl⟩
  ·obtain ⟨x, hx⟩ : ∃ x, xs[i.toNat]? = some x := ⟨_, List.getElem?_eq_getElem (by omega)⟩
   have e : atL xs i = x := by unfold atL; rw [if_neg (by omega), getD_eq_getElem?_getD, hx, Option.getD_some]
   rw [e]
   try refine run ?_
   exact D.fin1 [h] _ rfl rfl ⟨rfl, rfl⟩
theorem cfO_n {o : Option Ch} (ok : ChO o) : 0 ≤ (cfO o).n ∧ (cfO o).n ≤ 4 := by
 cases o with
 | none => exact ⟨by decide, by decide⟩
 | some c => have := (ok c rfl).l4; exact ⟨Int.natCast_nonneg _, by show (c.ms.length : Int) ≤ 4; omega⟩
def headO (o : Option Ch) : Int := atL (nodesO o) 0
theorem head_ct {o : Option Ch} (ok : ChO o) : Ct prog 176 [.agg (List.toArray (cfO o).enc)] [] (fun r H' => r = .int .i64 (headO o) ∧ H' = []) := by
 refine Ct.mk' func176 rfl rfl rfl (fun g R => ?_)
 try simp only [ca]
 simp only [na]
 repeat' (first | refine run ?_ | refine bx rfl (fun _ => ?_) | fail)
 refine WX.call rfl (nodesO_ct ok) rfl ?_
 rintro _ _ ⟨h1, hs1, rfl⟩
 simp only [ca, na]
 skip
 refine WX.callQ rfl (at_ct hs1.rs 0) rfl ?_
 try refine run ?_
 exact D.fin1 [] _ rfl rfl ⟨rfl, rfl⟩
def lastO (o : Option Ch) : Int := atL (nodesO o) ((cfO o).n - 1)
theorem last_ct {o : Option Ch} (ok : ChO o) : Ct prog 210 [.agg (List.toArray (cfO o).enc)] [] (fun r H' => r = .int .i64 (lastO o) ∧ H' = []) := by
 have hn := cfO_n ok
 refine Ct.mk' func210 rfl rfl rfl (fun g R => ?_)
 try simp only [ca]
 simp only [na]
 repeat' (first | refine run ?_ | refine bx rfl (fun _ => ?_) | fail)
 rename_i cb
 refine W.mixN 8 [true, false, true, true, true, false] [CfBk cb (cfO o)] Tryz.mix (by kernel_rfl) ?_
 try refine run ?_
 refine WX.call rfl (nodesO_ct ok) rfl ?_
 rintro _ _ ⟨h1, hs1, rfl⟩
 simp only [ca, na]
 try refine run ?_
 refine WX.callQ rfl (at_ct hs1.rs ((cfO o).n - 1)) rfl ?_
 try refine run ?_
 exact D.fin1 [] _ rfl rfl ⟨rfl, rfl⟩
def aheadO (o : Option Ch) (n : Int) : Int := atL (nodesO o) (iplc (nodesO o) n - 1)
theorem iplc_range (xs : List Int) (k : Int) : -1 ≤ iplc xs k ∧ iplc xs k ≤ (xs.length : Int) := by
 unfold iplc
 cases h : xs.findIdx? (fun p => decide (p = k)) with
 | none => simp only []; omega
 | some i => have := (List.findIdx?_eq_some_iff_getElem.1 h).1; simp only []; omega
theorem ahead_ct {o : Option Ch} (ok : ChO o) (n : Int) : Ct prog 54 [.agg (List.toArray (cfO o).enc), .int .i64 n] [] (fun r H' => r = .int .i64 (aheadO o n) ∧ H' = []) := by
 have hl := nodesO_len ok
 have hi := iplc_range (nodesO o) n
 refine Ct.mk' func54 rfl rfl rfl (fun g R => ?_)
 try simp only [ca]
 simp only [na]
 repeat' (first | refine run ?_ | refine bx rfl (fun _ => ?_) | fail)
 refine WX.call rfl (nodesO_ct ok) rfl ?_
 rintro _ _ ⟨h1, hs1, rfl⟩
 simp only [ca, na]
 try refine run ?_
 refine WX.callQ rfl (index_ct hs1.rs n (by omega)) rfl ?_
 try refine run ?_
 refine WX.callQ rfl (at_ct hs1.rs (iplc (nodesO o) n - 1)) rfl ?_
 try refine run ?_
 exact D.fin1 [] _ rfl rfl ⟨rfl, rfl⟩
def behindO (o : Option Ch) (n : Int) : Int := if iplc (nodesO o) n < 0 then -1 else atL (nodesO o) (iplc (nodesO o) n + 1)
theorem behind_ct {o : Option Ch} (ok : ChO o) (n : Int) : Ct prog 38 [.agg (List.toArray (cfO o).enc), .int .i64 n] [] (fun r H' => r = .int .i64 (behindO o n) ∧ H' = []) := by
 have hl := nodesO_len ok
 have hi := iplc_range (nodesO o) n
 refine Ct.mk' func38 rfl rfl rfl (fun g R => ?_)
 try simp only [ca]
 simp only [na]
 repeat' (first | refine run ?_ | refine bx rfl (fun _ => ?_) | fail)
 refine WX.call rfl (nodesO_ct ok) rfl ?_
 rintro _ _ ⟨h1, hs1, rfl⟩
 simp only [ca, na]
 try refine run ?_
 refine WX.callQ rfl (index_ct hs1.rs n (by omega)) rfl ?_
 by_cases h0 : iplc (nodesO o) n < 0
 ·have e : behindO o n = -1 := if_pos h0
  rw [e]
  try refine run ?_
  exact D.fin1 [] _ rfl rfl ⟨rfl, rfl⟩
 ·have e : behindO o n = atL (nodesO o) (iplc (nodesO o) n + 1) := if_neg h0
  rw [e]
  try refine run ?_
  refine WX.callQ rfl (at_ct hs1.rs (iplc (nodesO o) n + 1)) rfl ?_
  try refine run ?_
  exact D.fin1 [] _ rfl rfl ⟨rfl, rfl⟩
def fullO (o : Option Ch) (n : Int) : Bool := decide (0 ≤ iplc (nodesO o) n ∧ iplc (nodesO o) n < (cfO o).n)
theorem fullO_ct {o : Option Ch} (ok : ChO o) (n : Int) : Ct prog 36 [.agg (List.toArray (cfO o).enc), .int .i64 n] [] (fun r H' => r = .bool (fullO o n) ∧ H' = []) := by
 have hl := nodesO_len ok
 have hi := iplc_range (nodesO o) n
 unfold fullO
 refine Ct.mk' func36 rfl rfl rfl (fun g R => ?_)
 try simp only [ca]
 simp only [na]
 repeat' (first | refine run ?_ | refine bx rfl (fun _ => ?_) | fail)
 refine WX.call rfl (nodesO_ct ok) rfl ?_
 rintro _ _ ⟨h1, hs1, rfl⟩
 simp only [ca, na]
 try refine run ?_
 refine WX.callQ rfl (index_ct hs1.rs n (by omega)) rfl ?_
 by_cases h0 : 0 ≤ iplc (nodesO o) n
 ·by_cases h2 : iplc (nodesO o) n < (cfO o).n
  ·try refine run ?_
   exact D.fin1 [] _ rfl rfl ⟨by simp [h0, h2], rfl⟩
  ·try refine run ?_
   exact D.fin1 [] _ rfl rfl ⟨by simp [h0, h2], rfl⟩
 ·try refine run ?_
  exact D.fin1 [] _ rfl rfl ⟨by simp [h0], rfl⟩
def sinceO (o : Option Ch) (k : Int) : Int := match o with
 | none => 0
 | some c => match c.all.findIdx? (fun p => decide (p.nd = k)) with
  | none => 0
  | some j => (c.all.getD j Mem.z).sn
theorem iplc_plc {ms : List Mem} {k : Int} : iplc (ms.map (·.nd)) k = plc ms k := by unfold iplc plc; rw [List.findIdx?_map]; rfl
theorem sinceO_ct {o : Option Ch} (ok : ChO o) (k : Int) :
  Ct prog 62 [.agg (List.toArray (cfO o).enc), .int .i64 k] [] (fun r H' => r = .int .i64 (sinceO o k) ∧ H' = []) := by
 have hl := nodesO_len ok
 refine Ct.mk' func62 rfl rfl rfl (fun g R => ?_)
 try simp only [ca]
 simp only [na]
 repeat' (first | refine run ?_ | refine bx rfl (fun _ => ?_) | fail)
 refine WX.call rfl (nodesO_ct ok) rfl ?_
 rintro _ _ ⟨h1, hs1, rfl⟩
 simp only [ca, na]
 try refine run ?_
 refine WX.callQ rfl (index_ct hs1.rs k (by omega)) rfl ?_
 cases o with
 | none =>
  have e : iplc (nodesO none) k = -1 := rfl
  rw [e]
  try refine run ?_
  exact D.fin1 [] _ rfl rfl ⟨rfl, rfl⟩
 | some c =>
  have okc := ok c rfl
  rw [show iplc (nodesO (some c)) k = plc c.all k from iplc_plc]
  cases hf : c.all.findIdx? (fun p => decide (p.nd = k)) with
  | none =>
   have e : plc c.all k = -1 := by unfold plc; rw [hf]
   have e2 : sinceO (some c) k = 0 := by unfold sinceO; simp only []; rw [hf]
   rw [e, e2]
   try refine run ?_
   exact D.fin1 [] _ rfl rfl ⟨rfl, rfl⟩
  | some j =>
   have e : plc c.all k = (j : Int) := by unfold plc; rw [hf]
   obtain ⟨hj, _⟩ := List.findIdx?_eq_some_iff_getElem.1 hf
   obtain ⟨m, hm⟩ : ∃ m, c.all[j]? = some m := ⟨_, List.getElem?_eq_getElem hj⟩
   have e2 : sinceO (some c) k = m.sn := by unfold sinceO; simp only []; rw [hf]; simp only [getD_eq_getElem?_getD, hm, Option.getD_some]
   rw [e, e2]
   try refine run ?_
   refine WX.call rfl (members_ct okc) rfl ?_
   rintro _ _ ⟨h2, hs2, rfl⟩
   have hr2 := hs2.rs
   simp only [ca, na]
   try refine run ?_
   exact D.fin1 [] _ rfl rfl ⟨rfl, rfl⟩
end Go.Proofs.YtejfahjgfedliaaGreat

namespace Go.Proofs.YtejfahjgfedliaaGreat
open Go Go.Sl List
def mx (i j : Int) : Int := if j > i then j else i
theorem mx_le (i j : Int) : i ≤ mx i j ∧ j ≤ mx i j := by unfold mx; split <;> omega
def V9.tab (f : Nat → Int) : V9 := ⟨f 0, f 1, f 2, f 3, f 4, f 5, f 6, f 7, f 8⟩
def V9.at (v : V9) (k : Nat) : Int := [v.a, v.b, v.c, v.d, v.e, v.f, v.g, v.h, v.i].getD k 0
def upN (f : Nat → Int) (k : Nat) (x : Int) : Nat → Int := fun i => if i = k then x else f i
theorem V9.enc_at (v : V9) {k : Nat} (h : k < 9) : v.enc[k]? = some (.int .i64 (v.at k)) := by
 rcases (by omega : k = 0 ∨ k = 1 ∨ k = 2 ∨ k = 3 ∨ k = 4 ∨ k = 5 ∨ k = 6 ∨ k = 7 ∨ k = 8) with rfl | rfl | rfl | rfl | rfl | rfl | rfl | rfl | rfl <;> rfl
theorem V9.tab_at (f : Nat → Int) {k : Nat} (h : k < 9) : (V9.tab f).at k = f k := by
 rcases (by omega : k = 0 ∨ k = 1 ∨ k = 2 ∨ k = 3 ∨ k = 4 ∨ k = 5 ∨ k = 6 ∨ k = 7 ∨ k = 8) with rfl | rfl | rfl | rfl | rfl | rfl | rfl | rfl | rfl <;> rfl
theorem V9.at_tab (v : V9) : V9.tab v.at = v := rfl
theorem V9.tab_set (f : Nat → Int) {k : Nat} (h : k < 9) (x : Int) : (V9.tab f).enc.set k (.int .i64 x) = (V9.tab (upN f k x)).enc := by
 rcases (by omega : k = 0 ∨ k = 1 ∨ k = 2 ∨ k = 3 ∨ k = 4 ∨ k = 5 ∨ k = 6 ∨ k = 7 ∨ k = 8) with rfl | rfl | rfl | rfl | rfl | rfl | rfl | rfl | rfl <;> rfl
theorem V9.tab_congr {f g : Nat → Int} (h : ∀ i, i < 9 → f i = g i) : V9.tab f = V9.tab g := by
 unfold V9.tab
 rw [h 0 (by decide), h 1 (by decide), h 2 (by decide), h 3 (by decide), h 4 (by decide), h 5 (by decide), h 6 (by decide), h 7 (by decide), h 8 (by decide)]
def V9.put (v : V9) (k : Nat) (x : Int) : V9 := V9.tab (upN v.at k x)
theorem V9.enc_put (v : V9) {k : Nat} (h : k < 9) (x : Int) : v.enc.set k (.int .i64 x) = (v.put k x).enc := V9.tab_set v.at h x
def mergeK (a b : V9) (k : Nat) : V9 := V9.tab fun i => if i < k then mx (a.at i) (b.at i) else a.at i
def merge2 (a b : V9) : V9 := mergeK a b 9
theorem mergeK_0 (a b : V9) : mergeK a b 0 = a := by unfold mergeK; exact (V9.tab_congr fun i _ => if_neg (Nat.not_lt_zero _)).trans a.at_tab
theorem mergeK_at (a b : V9) {k : Nat} (h : k < 9) : (mergeK a b k).at k = a.at k := by unfold mergeK; rw [V9.tab_at _ h]; exact if_neg (Nat.lt_irrefl _)
theorem mergeK_put (a b : V9) {k : Nat} (h : k < 9) : (mergeK a b k).put k (mx (a.at k) (b.at k)) = mergeK a b (k + 1) := by
 unfold V9.put
 show V9.tab _ = V9.tab _
 refine V9.tab_congr fun i hi => ?_
 unfold upN mergeK
 by_cases e : i = k
 ·subst e; rw [if_pos rfl, if_pos (by omega)]
 ·rw [if_neg e, V9.tab_at _ hi]
  by_cases h2 : i < k
  ·rw [if_pos h2, if_pos (by omega)]
  ·rw [if_neg h2, if_neg (by omega)]
structure V3 where
 (a b c : Int)
 deriving DecidableEq
def V3.enc (v : V3) : List Value := [.int .i64 v.a, .int .i64 v.b, .int .i64 v.c]
def V3.z : V3 := ⟨0, 0, 0⟩
def V3.at (v : V3) (k : Nat) : Int := [v.a, v.b, v.c].getD k 0
def V3.put (v : V3) (k : Nat) (x : Int) : V3 := match k with
 | 0 => ⟨x, v.b, v.c⟩
 | 1 => ⟨v.a, x, v.c⟩
 | 2 => ⟨v.a, v.b, x⟩
 | _ => v
theorem V3.enc_at (v : V3) {k : Nat} (h : k < 3) : v.enc[k]? = some (.int .i64 (v.at k)) := by
 rcases (by omega : k = 0 ∨ k = 1 ∨ k = 2) with rfl | rfl | rfl <;> rfl
theorem V3.enc_put (v : V3) {k : Nat} (h : k < 3) (x : Int) : v.enc.set k (.int .i64 x) = (v.put k x).enc := by
 rcases (by omega : k = 0 ∨ k = 1 ∨ k = 2) with rfl | rfl | rfl <;> rfl
abbrev ChainD (dc rg : Int) : Prop := 0 ≤ dc ∧ dc < 3 ∧ 0 ≤ rg ∧ rg < 3
def colStep (rg : Int) (c : V3) (e : Ent) : V3 := if e.rg = rg ∧ ChainD e.dc rg then c.put e.dc.toNat (mx (c.at e.dc.toNat) e.sq) else c
def colF (rg : Int) (es : List Ent) : V3 := es.foldl (colStep rg) V3.z
theorem colF_snoc (rg : Int) (es : List Ent) (e : Ent) : colF rg (es ++ [e]) = colStep rg (colF rg es) e := by unfold colF; rw [foldl_append]; rfl
def partV (v : V9) (rg : Int) : V3 := if 0 ≤ rg ∧ rg < 3 then ⟨v.at rg.toNat, v.at (3 + rg.toNat), v.at (6 + rg.toNat)⟩ else V3.z
abbrev CovC (a b : V3) : Prop := b.a ≤ a.a ∧ b.b ≤ a.b ∧ b.c ≤ a.c
def withD (v : V9) (dc rg sq : Int) : V9 := if ChainD dc rg then v.put (dc.toNat * 3 + rg.toNat) (mx (v.at (dc.toNat * 3 + rg.toNat)) sq) else v
def mergeV (vs : List V9) : V9 := vs.foldl merge2 V9.z
def pastM (es : List Ent) : V9 := es.foldl (fun o e => mergeV [o, e.dp]) V9.z
def pastV (es : List Ent) : V9 := es.foldl (fun o e => withD o e.dc e.rg e.sq) (pastM es)
abbrev MC : Int := 1099511627776
abbrev RightV (v : V9) : Prop := ∀ i, i < 9 → 0 ≤ v.at i ∧ v.at i ≤ MC
abbrev RightS (ct dc rg : Int) : Prop := 1 ≤ ct ∧ ct ≤ MC ∧ 0 ≤ dc ∧ dc < 3 ∧ 0 ≤ rg ∧ rg < 3
structure EntR (e : Ent) : Prop where
 ch : ChainD e.dc e.rg
 sq : 1 ≤ e.sq ∧ e.sq ≤ MC
 st : RightS e.ct e.sd e.sr
 sd : e.sd = e.dc
 sr : e.sr = e.rg
 key : 1 ≤ e.key.size ∧ e.key.size ≤ 16
 val : e.val.size ≤ 32
 dead : e.dead = true → e.val = ByteArray.empty
 dp : RightV e.dp
 own : e.dp.at (e.dc.toNat * 3 + e.rg.toNat) = e.sq - 1
 cl : 0 ≤ e.cl ∧ e.cl < 4
 op : 1 ≤ e.op ∧ e.op ≤ MC
instance (v : V9) : Decidable (RightV v) := Nat.decidableBallLT 9 fun i _ => 0 ≤ v.at i ∧ v.at i ≤ MC
instance (e : Ent) : Decidable (EntR e) := decidable_of_iff (ChainD e.dc e.rg ∧ (1 ≤ e.sq ∧ e.sq ≤ MC) ∧ RightS e.ct e.sd e.sr ∧ e.sd = e.dc ∧ e.sr = e.rg ∧ (1 ≤ e.key.size ∧ e.key.size ≤ 16) ∧ e.val.size ≤ 32 ∧
  (e.dead = true → e.val = ByteArray.empty) ∧ RightV e.dp ∧ e.dp.at (e.dc.toNat * 3 + e.rg.toNat) = e.sq - 1 ∧ (0 ≤ e.cl ∧ e.cl < 4) ∧ (1 ≤ e.op ∧ e.op ≤ MC))
 ⟨fun ⟨a, b, c, d, e, f, g, h, i, j, k, l⟩ => ⟨a, b, c, d, e, f, g, h, i, j, k, l⟩, fun ⟨a, b, c, d, e, f, g, h, i, j, k, l⟩ => ⟨a, b, c, d, e, f, g, h, i, j, k, l⟩⟩
def mostI (xs : List Int) : Int := xs.foldl mx 0
def nextCt (xs : List Int) : Int := (if MC < mostI xs then MC else mostI xs) + 1
theorem rfold_fine {vs : List Value} : ∀ {its : List It} {C : Cd}, (∀ it ∈ its, ∃ u e, vs[it.o]? = some u ∧ encI it u = some e ∧ longI it u = false) →
  (its.foldl (wstep vs) C).arg = C.arg ∧ (its.foldl (wstep vs) C).long = C.long := by
 intro its
 induction its with
 | nil => intro C _; exact ⟨rfl, rfl⟩
 | cons it r ih =>
  intro C h
  obtain ⟨u, e, h1, h2, h3⟩ := h it (mem_cons_self ..)
  obtain ⟨h4, h5⟩ := ih (C := wstep vs C it) (fun x hx => h x (mem_cons_of_mem _ hx))
  rw [foldl_cons, h4, h5]
  unfold wstep
  rw [h1]
  simp [h2, h3]
theorem enc_num {o : Nat} {x : Int} (h1 : 0 ≤ x) (h2 : x ≤ MC) : encI (.num o) (.int .i64 x) = some (encN x.toNat) := by
 rw [encI_num, if_neg (by simp only [MC] at h2; omega)]
theorem code_fine {r : Rec} (hk : r.known = true) (hb : r.bare = r) (key : ∀ it ∈ Rec.its r.k, ∃ u e, r.enc[it.o]? = some u ∧ encI it u = some e ∧ longI it u = false) : r.code = 0 := by
 obtain ⟨h1, h2⟩ := rfold_fine (C := {}) key
 have h3 : r.w.arg = ((((Rec.its r.k).foldl (wstep r.enc) {}).arg || !r.known) || !decide (r.bare = r)) := rfl
 have h4 : r.w.long = ((Rec.its r.k).foldl (wstep r.enc) {}).long := rfl
 rw [h1, hk, hb, decide_eq_true rfl] at h3
 rw [h2] at h4
 unfold Rec.code frRes
 rw [if_neg (by rw [h3]; decide), if_neg (by rw [h4]; decide)]
def recW (e : Ent) : Rec := ⟨1, e, Cfg.z, 0⟩
def recN (c : Cfg) (b : Int) : Rec := ⟨2, Ent.z, c, b⟩
theorem recW_code {e : Ent} (h : EntR e) : (recW e).code = 0 := by
 refine code_fine rfl rfl fun it hit => ?_
 rw [show Rec.its (recW e).k = [.num 0, .num 1, .num 2, .num 3, .num 4, .num 5, .num 6, .txt 7 16, .txt 8 32, .tru 9, .num 10, .num 11, .num 12, .num 13, .num 14, .num 15, .num 16, .num 17, .num 18, .num 19, .num 20] from rfl] at hit
 simp only [mem_cons, not_mem_nil, or_false] at hit
 rcases hit with rfl | rfl | rfl | rfl | rfl | rfl | rfl | rfl | rfl | rfl | rfl | rfl | rfl | rfl | rfl | rfl | rfl | rfl | rfl | rfl | rfl
 ·exact ⟨_, _, rfl, enc_num (x := 1) (by decide) (by decide), rfl⟩
 ·exact ⟨_, _, rfl, enc_num (x := e.dc) (h.ch.1) (by have := h.ch.2.1; simp only [MC]; omega), rfl⟩
 ·exact ⟨_, _, rfl, enc_num (x := e.rg) (h.ch.2.2.1) (by have := h.ch.2.2.2; simp only [MC]; omega), rfl⟩
 ·exact ⟨_, _, rfl, enc_num (x := e.sq) (by have := h.sq.1; omega) (h.sq.2), rfl⟩
 ·exact ⟨_, _, rfl, enc_num (x := e.ct) (by have := h.st.1; omega) (h.st.2.1), rfl⟩
 ·exact ⟨_, _, rfl, enc_num (x := e.sd) (h.st.2.2.1) (by have := h.st.2.2.2.1; simp only [MC]; omega), rfl⟩
 ·exact ⟨_, _, rfl, enc_num (x := e.sr) (h.st.2.2.2.2.1) (by have := h.st.2.2.2.2.2; simp only [MC]; omega), rfl⟩
 ·exact ⟨_, _, rfl, rfl, by show decide (16 < e.key.data.toList.length) = false; rw [show e.key.data.toList.length = e.key.size from Array.length_toList]; exact decide_eq_false (by have := h.key.2; omega)⟩
 ·exact ⟨_, _, rfl, rfl, by show decide (32 < e.val.data.toList.length) = false; rw [show e.val.data.toList.length = e.val.size from Array.length_toList]; exact decide_eq_false (by have := h.val; omega)⟩
 ·exact ⟨_, _, rfl, rfl, rfl⟩
 ·exact ⟨_, _, rfl, enc_num (x := e.dp.at 0) ((h.dp 0 (by decide)).1) ((h.dp 0 (by decide)).2), rfl⟩
 ·exact ⟨_, _, rfl, enc_num (x := e.dp.at 1) ((h.dp 1 (by decide)).1) ((h.dp 1 (by decide)).2), rfl⟩
 ·exact ⟨_, _, rfl, enc_num (x := e.dp.at 2) ((h.dp 2 (by decide)).1) ((h.dp 2 (by decide)).2), rfl⟩
 ·exact ⟨_, _, rfl, enc_num (x := e.dp.at 3) ((h.dp 3 (by decide)).1) ((h.dp 3 (by decide)).2), rfl⟩
 ·exact ⟨_, _, rfl, enc_num (x := e.dp.at 4) ((h.dp 4 (by decide)).1) ((h.dp 4 (by decide)).2), rfl⟩
 ·exact ⟨_, _, rfl, enc_num (x := e.dp.at 5) ((h.dp 5 (by decide)).1) ((h.dp 5 (by decide)).2), rfl⟩
 ·exact ⟨_, _, rfl, enc_num (x := e.dp.at 6) ((h.dp 6 (by decide)).1) ((h.dp 6 (by decide)).2), rfl⟩
 ·exact ⟨_, _, rfl, enc_num (x := e.dp.at 7) ((h.dp 7 (by decide)).1) ((h.dp 7 (by decide)).2), rfl⟩
 ·exact ⟨_, _, rfl, enc_num (x := e.dp.at 8) ((h.dp 8 (by decide)).1) ((h.dp 8 (by decide)).2), rfl⟩
 ·exact ⟨_, _, rfl, enc_num (x := e.cl) (h.cl.1) (by have := h.cl.2; simp only [MC]; omega), rfl⟩
 ·exact ⟨_, _, rfl, enc_num (x := e.op) (by have := h.op.1; omega) (h.op.2), rfl⟩
theorem recN_code {c : Ch} (ok : ChOk c) {b : Int} (b0 : 0 ≤ b) (b1 : b ≤ MC) : (recN c.cfg b).code = 0 := by
 have e1 := ok.e1; have e2 := ok.e2; have h4 := ok.l4
 have hz : ∀ k, (0 ≤ (c.ms.getD k Mem.z).nd ∧ (c.ms.getD k Mem.z).nd ≤ MC) ∧ 0 ≤ (c.ms.getD k Mem.z).sn ∧ (c.ms.getD k Mem.z).sn ≤ MC := fun k => by
  rw [getD_eq_getElem?_getD]
  cases h : c.ms[k]? with
  | none => exact ⟨⟨by decide, by decide⟩, by decide, by decide⟩
  | some m =>
   have := ok.rg m (mem_append_left _ (mem_of_getElem? h))
   simp only [MC, Option.getD_some]; omega
 have hl : (0 ≤ (c.ln.getD Mem.z).nd ∧ (c.ln.getD Mem.z).nd ≤ MC) ∧ 0 ≤ (c.ln.getD Mem.z).sn ∧ (c.ln.getD Mem.z).sn ≤ MC := by
  cases h : c.ln with
  | none => exact ⟨⟨by decide, by decide⟩, by decide, by decide⟩
  | some m =>
   have := ok.rg m (mem_append_right _ (by rw [h]; simp))
   simp only [MC, Option.getD_some]; omega
 refine code_fine rfl rfl fun it hit => ?_
 rw [show Rec.its (recN c.cfg b).k = [.num 0, .num 21, .num 22, .num 23, .num 24, .num 25, .num 26, .num 27, .num 28, .num 29, .num 30, .tru 31, .num 32, .num 33, .num 34] from rfl] at hit
 simp only [mem_cons, not_mem_nil, or_false] at hit
 rcases hit with rfl | rfl | rfl | rfl | rfl | rfl | rfl | rfl | rfl | rfl | rfl | rfl | rfl | rfl | rfl
 ·exact ⟨_, _, rfl, enc_num (x := 2) (by decide) (by decide), rfl⟩
 ·exact ⟨_, _, rfl, enc_num (x := c.ep) (by omega) (by simp only [MC]; omega), rfl⟩
 ·exact ⟨_, _, rfl, enc_num (x := (c.ms.length : Int)) (by omega) (by simp only [MC]; omega), rfl⟩
 ·exact ⟨_, _, rfl, enc_num (hz 0).1.1 (hz 0).1.2, rfl⟩
 ·exact ⟨_, _, rfl, enc_num (hz 0).2.1 (hz 0).2.2, rfl⟩
 ·exact ⟨_, _, rfl, enc_num (hz 1).1.1 (hz 1).1.2, rfl⟩
 ·exact ⟨_, _, rfl, enc_num (hz 1).2.1 (hz 1).2.2, rfl⟩
 ·exact ⟨_, _, rfl, enc_num (hz 2).1.1 (hz 2).1.2, rfl⟩
 ·exact ⟨_, _, rfl, enc_num (hz 2).2.1 (hz 2).2.2, rfl⟩
 ·exact ⟨_, _, rfl, enc_num (hz 3).1.1 (hz 3).1.2, rfl⟩
 ·exact ⟨_, _, rfl, enc_num (hz 3).2.1 (hz 3).2.2, rfl⟩
 ·exact ⟨_, _, rfl, rfl, rfl⟩
 ·exact ⟨_, _, rfl, enc_num hl.1.1 hl.1.2, rfl⟩
 ·exact ⟨_, _, rfl, enc_num hl.2.1 hl.2.2, rfl⟩
 ·exact ⟨_, _, rfl, enc_num b0 b1, rfl⟩
structure CS where
 (dc rg nd : Int)
 co : Option Ch
 (sn bs : Int)
 lg : List Ent
 (du st ak ow : Int)
 su : Bool
def CS.new (dc rg nd : Int) : CS := ⟨dc, rg, nd, none, 0, 0, [], 0, 0, 0, 0, false⟩
def CS.len (s : CS) : Int := (s.lg.length : Int)
structure CsOk (s : CS) : Prop where
 co : ChO s.co
 bs : 0 ≤ s.bs ∧ s.bs ≤ s.du
 du : 0 ≤ s.du ∧ s.du ≤ s.len
 len : s.lg.length ≤ 256
 es : ∀ e ∈ s.lg, EntR e
theorem CsOk.new (dc rg nd : Int) : CsOk (CS.new dc rg nd) := ⟨ChO.none, ⟨Int.le_refl 0, Int.le_refl 0⟩, ⟨Int.le_refl 0, Int.le_refl 0⟩, Nat.zero_le _, fun e h => by cases h⟩
abbrev CS.last (s : CS) : Prop := 0 ≤ s.nd ∧ lastO s.co = s.nd
abbrev CS.head (s : CS) : Prop := 0 ≤ s.nd ∧ headO s.co = s.nd
def CS.settle (s : CS) : CS :=
 if s.last then (if (cfO s.co).jo = false then { s with su := true, st := s.du } else if s.su = true then { s with st := mx s.st s.bs } else s) else s
theorem settle_same (s : CS) : s.settle.dc = s.dc ∧ s.settle.rg = s.rg ∧ s.settle.nd = s.nd ∧ s.settle.co = s.co ∧ s.settle.sn = s.sn ∧ s.settle.bs = s.bs ∧ s.settle.lg = s.lg ∧ s.settle.du = s.du ∧ s.settle.ak = s.ak ∧ s.settle.ow = s.ow := by
 unfold CS.settle
 split
 ·split
  ·simp
  ·split <;> simp
 ·simp
theorem CsOk.settle {s : CS} (ok : CsOk s) : CsOk s.settle := by
 obtain ⟨-, -, -, h4, -, h6, h7, h8, -, -⟩ := settle_same s
 have hl : s.settle.len = s.len := by unfold CS.len; rw [h7]
 exact ⟨by rw [h4]; exact ok.co, by rw [h6, h8]; exact ok.bs, by rw [h8, hl]; exact ok.du, by rw [h7]; exact ok.len, by rw [h7]; exact ok.es⟩
def CS.enter0 (s : CS) (x : Cfg) : CS :=
 if sinceO (some (chOf x)) s.nd ≠ 0 ∧ sinceO (some (chOf x)) s.nd ≠ s.sn then ⟨s.dc, s.rg, s.nd, some (chOf x), sinceO (some (chOf x)) s.nd, 0, [], 0, 0, 0, 0, true⟩
 else ⟨s.dc, s.rg, s.nd, some (chOf x), s.sn, s.len, s.lg, s.len, s.st, 0, 0, true⟩
def CS.resets (s : CS) (x : Cfg) : Bool := decide (sinceO (some (chOf x)) s.nd ≠ 0 ∧ sinceO (some (chOf x)) s.nd ≠ s.sn)
def CS.enter (s : CS) (x : Cfg) : (Bool × Int) × CS :=
 if ¬ RightC x then ((false, 1), s) else if x.ep ≤ (cfO s.co).ep then ((false, 80), s) else ((s.resets x, 0), (s.enter0 x).settle)
theorem CsOk.enter0 {s : CS} (ok : CsOk s) {x : Cfg} (h : RightC x) : CsOk (s.enter0 x) := by
 unfold CS.enter0
 split
 ·exact ⟨ChO.some h.2.2, ⟨Int.le_refl 0, Int.le_refl 0⟩, ⟨Int.le_refl 0, Int.le_refl 0⟩, Nat.zero_le _, fun e h => by cases h⟩
 ·exact ⟨ChO.some h.2.2, ⟨Int.natCast_nonneg _, Int.le_refl _⟩, ⟨Int.natCast_nonneg _, Int.le_refl _⟩, ok.len, ok.es⟩
theorem CsOk.enter {s : CS} (ok : CsOk s) (x : Cfg) : CsOk (s.enter x).2 := by
 unfold CS.enter
 split
 ·exact ok
 ·rename_i h
  split
  ·exact ok
  ·exact (ok.enter0 (Classical.not_not.1 h)).settle
def foundE (es : List Ent) (cl op : Int) : Int := match es.findIdx? (fun e => decide (e.cl = cl ∧ e.op = op)) with
 | none => 0
 | some i => (i : Int) + 1
def CS.push (s : CS) (e : Ent) : CS := { s with lg := s.lg ++ [e] }
theorem CsOk.push {s : CS} (ok : CsOk s) (hl : s.lg.length < 256) {e : Ent} (he : EntR e) : CsOk (s.push e) := by
 have h : (s.push e).len = s.len + 1 := by unfold CS.push CS.len; simp
 refine ⟨ok.co, ok.bs, ⟨ok.du.1, by have := ok.du.2; rw [h]; show s.du ≤ _; omega⟩, by unfold CS.push; simp; omega, fun x hx => ?_⟩
 rcases mem_append.1 hx with hx | hx
 ·exact ok.es x hx
 ·rw [mem_singleton.1 hx]; exact he
def CS.entry (s : CS) (key val : ByteArray) (dead : Bool) (deps : V9) (clock cl op : Int) : Ent :=
 ⟨s.dc, s.rg, (colF s.rg s.lg).at s.dc.toNat + 1, nextCt (clock :: s.lg.map (·.ct)), s.dc, s.rg, key, val, dead, mergeV [deps, pastV s.lg], cl, op⟩
abbrev CS.covers (s : CS) (deps : V9) : Prop := CovC (colF s.rg s.lg) (partV deps s.rg)
abbrev CS.nextOk (s : CS) (clock : Int) : Prop := RightS (nextCt (clock :: s.lg.map (·.ct))) s.dc s.rg
def CS.putS (s : CS) (key val : ByteArray) (dead : Bool) (deps : V9) (clock cl op : Int) : (Int × Int) × CS :=
 if ¬ s.head then ((0, 90), s)
 else if 0 < foundE s.lg cl op then ((foundE s.lg cl op, 0), s)
 else if ¬ s.covers deps then ((0, 91), s)
 else if 256 ≤ s.len ∨ ¬ s.nextOk clock then ((0, 2), s)
 else if ¬ EntR (s.entry key val dead deps clock cl op) then ((0, 1), s)
 else ((s.len + 1, 0), (s.push (s.entry key val dead deps clock cl op)).settle)
def CS.inject (s : CS) (e : Ent) : Int × CS :=
 if ¬ s.head then (90, s)
 else if ¬ EntR e ∨ e.rg ≠ s.rg ∨ e.dc = s.dc then (1, s)
 else if e.sq ≤ (colF s.rg s.lg).at e.dc.toNat then (80, s)
 else if e.sq > (colF s.rg s.lg).at e.dc.toNat + 1 then (91, s)
 else if ¬ s.covers e.dp then (91, s)
 else if 256 ≤ s.len then (2, s)
 else (0, (s.push e).settle)
abbrev CS.takes (s : CS) (from_ ep ix : Int) (e : Ent) : Prop := ep = (cfO s.co).ep ∧ 0 ≤ from_ ∧ from_ = aheadO s.co s.nd ∧ ix = s.len + 1 ∧ EntR e ∧ s.len < 256
def CS.take (s : CS) (from_ ep ix : Int) (e : Ent) : Bool × CS :=
 if s.takes from_ ep ix e then (true, (s.push e).settle) else (false, s)
def CS.sync (s : CS) : CS := ({ s with du := s.len } : CS).settle
def mn (i j : Int) : Int := if j < i then j else i
def CS.heard0 (s : CS) (from_ d t : Int) : CS :=
 if fullO s.co from_ = true then { s with ak := mx s.ak d, st := mx s.st t }
 else if s.su = true ∨ s.ow ≤ d then { s with ak := mx s.ak d, su := true, st := mx (mx s.st s.bs) d }
 else { s with ak := mx s.ak d }
def CS.heard (s : CS) (from_ ep du st : Int) : Bool × CS :=
 if ep = (cfO s.co).ep ∧ 0 ≤ from_ ∧ from_ = behindO s.co s.nd then (true, (s.heard0 from_ (mn du s.du) (mn st s.du)).settle) else (false, s)
def CS.restore0 (dc rg nd : Int) (x : Cfg) (sn bs : Int) (es : List Ent) : CS :=
 ⟨dc, rg, nd, if RightC x then some (chOf x) else none, sn, mx 0 (mn bs (es.length : Int)), es, (es.length : Int), 0, 0, (es.length : Int), false⟩
def CS.restore (dc rg nd : Int) (x : Cfg) (sn bs : Int) (es : List Ent) : CS := (CS.restore0 dc rg nd x sn bs es).settle
theorem CsOk.restore {dc rg nd : Int} {x : Cfg} {sn bs : Int} {es : List Ent} (hl : es.length ≤ 256) (he : ∀ e ∈ es, EntR e) : CsOk (CS.restore dc rg nd x sn bs es) := by
 refine CsOk.settle ⟨fun c hc => ?_, ?_, ⟨Int.natCast_nonneg _, Int.le_refl _⟩, hl, he⟩
 ·unfold CS.restore0 at hc
  simp only [] at hc
  split at hc
  ·rename_i h; cases hc; exact h.2.2
  ·cases hc
 ·show 0 ≤ mx 0 (mn bs (es.length : Int)) ∧ mx 0 (mn bs (es.length : Int)) ≤ (es.length : Int)
  unfold mx mn; split <;> split <;> omega
theorem CsOk.put {s : CS} (ok : CsOk s) (key val : ByteArray) (dead : Bool) (deps : V9) (clock cl op : Int) : CsOk (s.putS key val dead deps clock cl op).2 := by
 unfold CS.putS
 repeat' split
 all_goals first | exact ok | skip
 rename_i h1 h2
 exact (ok.push (by simp only [not_or, CS.len] at h1; omega) (Classical.not_not.1 h2)).settle
theorem CsOk.inject {s : CS} (ok : CsOk s) (e : Ent) : CsOk (s.inject e).2 := by
 unfold CS.inject
 repeat' split
 all_goals first | exact ok | skip
 rename_i h1 _ _ _ h2
 simp only [not_or, Classical.not_not] at h1
 exact (ok.push (by simp only [CS.len] at h2; omega) h1.1).settle
theorem CsOk.take {s : CS} (ok : CsOk s) (f ep ix : Int) (e : Ent) : CsOk (s.take f ep ix e).2 := by
 unfold CS.take
 split
 ·rename_i h
  exact (ok.push (by have := h.2.2.2.2.2; simp only [CS.len] at this; omega) h.2.2.2.2.1).settle
 ·exact ok
theorem heard0_same (s : CS) (f d t : Int) : (s.heard0 f d t).dc = s.dc ∧ (s.heard0 f d t).rg = s.rg ∧ (s.heard0 f d t).nd = s.nd ∧ (s.heard0 f d t).co = s.co ∧ (s.heard0 f d t).sn = s.sn ∧ (s.heard0 f d t).bs = s.bs ∧ (s.heard0 f d t).lg = s.lg ∧ (s.heard0 f d t).du = s.du ∧ (s.heard0 f d t).ow = s.ow := by
 unfold CS.heard0
 repeat' split
 all_goals simp
theorem CsOk.heard {s : CS} (ok : CsOk s) (f ep du st : Int) : CsOk (s.heard f ep du st).2 := by
 unfold CS.heard
 split
 ·obtain ⟨-, -, -, h4, -, h6, h7, h8, -⟩ := heard0_same s f (mn du s.du) (mn st s.du)
  have hl : (s.heard0 f (mn du s.du) (mn st s.du)).len = s.len := by unfold CS.len; rw [h7]
  exact CsOk.settle ⟨by rw [h4]; exact ok.co, by rw [h6, h8]; exact ok.bs, by rw [h8, hl]; exact ok.du, by rw [h7]; exact ok.len, by rw [h7]; exact ok.es⟩
 ·exact ok
structure Rb where
 x : Cfg
 (sn bs : Int)
 es : List Ent
def Rb.z : Rb := ⟨Cfg.z, 0, 0, []⟩
def rbStep (nd : Int) (f : Rb) (r : Rec) : Rb :=
 if r.k = 1 then ⟨f.x, f.sn, f.bs, f.es ++ [r.e]⟩
 else ⟨r.c, if 0 < sinceO (some (chOf r.c)) nd then sinceO (some (chOf r.c)) nd else f.sn, r.base, f.es⟩
def rbF (nd : Int) (rs : List Rec) : Rb := rs.foldl (rbStep nd) Rb.z
theorem rbF_app (nd : Int) (a b : List Rec) : rbF nd (a ++ b) = b.foldl (rbStep nd) (rbF nd a) := by unfold rbF; rw [foldl_append]
theorem rbF_snoc (nd : Int) (a : List Rec) (r : Rec) : rbF nd (a ++ [r]) = rbStep nd (rbF nd a) r := by rw [rbF_app]; rfl
theorem rb_ents (nd : Int) : ∀ (rs : List Rec) (f : Rb), (∀ r ∈ rs, r.k = 1) → rs.foldl (rbStep nd) f = ⟨f.x, f.sn, f.bs, f.es ++ rs.map (·.e)⟩
 | [], f, _ => by simp
 | r :: t, f, h => by
  rw [foldl_cons, rb_ents nd t _ fun x hx => h x (mem_cons_of_mem _ hx)]
  unfold rbStep
  rw [if_pos (h r (mem_cons_self ..))]
  simp
theorem outF_app_ents (a b : List Rec) (h : ∀ r ∈ b, r.k = 1) : outF (a ++ b) = outF a ++ b := by
 induction b generalizing a with
 | nil => simp
 | cons r t ih =>
  have h1 := h r (mem_cons_self ..)
  rw [show a ++ r :: t = (a ++ [r]) ++ t by simp, ih _ fun x hx => h x (mem_cons_of_mem _ hx), outF_snoc, if_neg (by omega)]
  simp
def RecOk (r : Rec) : Prop := r.k = 1 ∧ EntR r.e ∨ r.k = 2 ∧ RightC r.c ∨ r.k = 3
structure LgOk (l : List Lf) : Prop where
 ok : LOk l
 re : ∀ r ∈ recs l, RecOk r
 loose : ∀ r ∈ (recs l).drop (sumK l), r.k = 1
 top : sumK l ≤ (recs l).length
structure LTell (l : List Lf) (c : CS) : Prop where
 x : (rbF c.nd (outF (recs l))).x = cfO c.co
 sn : (rbF c.nd (outF (recs l))).sn = c.sn
 bs : (rbF c.nd (outF (recs l))).bs = c.bs
 es : (rbF c.nd (outF (recs l))).es = c.lg
 du : (recs l).length - sumK l ≤ c.lg.length - c.du.toNat
theorem roomB_at {l : List Lf} {n : Int} (h : roomB l n = true) : l.length < 63 ∧ ((dk l).used : Int) < 1048576 - n * 512 := by
 unfold roomB at h
 have := of_decide_eq_true h
 exact ⟨this.2.2.1, this.2.2.2⟩
theorem recs_sync (l : List Lf) : recs (lsync l) = recs l := by
 unfold recs lsync
 rw [map_map]
 rfl
theorem sumK_sync (l : List Lf) : sumK (lsync l) = (recs l).length := by
 induction l with
 | nil => rfl
 | cons f t ih =>
  have h1 : sumK (lsync (f :: t)) = f.rs.length + sumK (lsync t) := by unfold sumK lsync; simp [Lf.full]
  have h2 : (recs (f :: t)).length = f.rs.length + (recs t).length := by unfold recs; simp
  rw [h1, h2, ih]
theorem ladd_room {l : List Lf} (ok : LOk l) {n : Int} (hn : 1 ≤ n) (hrm : roomB l n = true) (hnum : lastN l < 1099511627776) {r : Rec} (hc : r.code = 0) :
  (ladd1 l r).2 = 0 ∧ recs (ladd1 l r).1 = recs l ++ [r] ∧ sumK (ladd1 l r).1 = sumK l ∧ lastN (ladd1 l r).1 ≤ lastN l + 1 := by
 obtain ⟨h1, h2⟩ := roomB_at hrm
 have hle := (Rec.good hc).fr_le
 unfold ladd1
 rw [if_neg (by simpa using hc)]
 rcases eq_nil_or_concat l with rfl | ⟨pre, f, rfl⟩
 ·exact ⟨rfl, rfl, rfl, show (0 : Int) ≤ 0 + 1 by decide⟩
 ·rw [concat_eq_append] at hnum h1 h2 ⊢
  simp only [List.getLast?_concat, dropLast_concat]
  rw [lastN_app] at hnum ⊢
  have hk : sumK (pre ++ [f]) = sumK pre + f.k := by unfold sumK; simp
  by_cases h4 : 4096 ≤ (bytes f.rs).length
  ·rw [if_pos h4, if_neg (by omega)]
   refine ⟨rfl, by rw [recs_app, recs_one], ?_, ?_⟩
   ·unfold sumK; simp
   ·rw [lastN_app]; exact Int.le_refl _
  ·rw [if_neg h4, if_neg (by omega)]
   refine ⟨rfl, by rw [recs_app, recs_app, recs_one, recs_one, append_assoc], ?_, ?_⟩
   ·unfold sumK; simp
   ·rw [lastN_app]; show f.n ≤ f.n + 1; omega
theorem ladd_1 {l : List Lf} {r : Rec} : ladd l [r] = ladd1 l r := by
 unfold ladd
 split
 ·rfl
 ·rename_i h
  unfold ladd
  exact Prod.ext rfl (by simpa using Eq.symm (Classical.not_not.1 h))
theorem lcut_room {l : List Lf} (ok : LOk l) (hrm : roomB l 2 = true) (hnum : lastN l + 1 < 1099511627776) (hlo : 0 ≤ lastN l) : lcut l = ([⟨lastN l + 1, [cutR], 1⟩], 0) := by
 obtain ⟨h1, h2⟩ := roomB_at hrm
 have hle := (Rec.good cutR_code).fr_le
 have he : (dk l).appE (lastN l + 1) cutR.fr.length = 0 := by
  unfold DkS.appE
  have h3 := ok.fs_len
  rw [if_neg (by omega), if_neg (by rw [h3]; omega)]
 unfold lcut
 rw [if_neg (by simpa using he)]
end Go.Proofs.YtejfahjgfedliaaGreat

namespace Go.Proofs.YtejfahjgfedliaaGreat
open Go Go.Sl Go.Proofs.Tryz
instance : Enc V9 := ⟨9, V9.enc, fun _ => rfl, fun _ => rfl, by decide⟩
instance : Enc Ent := ⟨20, Ent.enc, fun _ => rfl, fun _ => rfl, by decide⟩
abbrev VcBk (b : Nat) (v : V9) : Hp := [(b, .cells (List.toArray v.enc) 37 (0, 0))]
abbrev ClBk (b : Nat) (v : V3) : Hp := [(b, .cells (List.toArray v.enc) 163 (0, 0))]
abbrev EnBk (b : Nat) (e : Ent) : Hp := [(b, .cells (List.toArray e.enc) 43 (0, 0))]
theorem chainD_ct (dc rg : Int) : Ct prog 173 [.int .i64 dc, .int .i64 rg] [] (fun r H' => r = .bool (decide (ChainD dc rg)) ∧ H' = []) := by
 refine Ct.mk' func173 rfl rfl rfl (fun g R => ?_)
 try simp only [ca]
 simp only [na]
 by_cases h0 : 0 ≤ dc
 ·by_cases h1 : dc < 3
  ·by_cases h2 : 0 ≤ rg
   ·try refine run ?_
    exact D.fin1 [] _ rfl rfl ⟨by simp [h0, h1, h2], rfl⟩
   ·try refine run ?_
    exact D.fin1 [] _ rfl rfl ⟨by simp [h0, h1, h2], rfl⟩
  ·try refine run ?_
   exact D.fin1 [] _ rfl rfl ⟨by simp [h0, h1], rfl⟩
 ·try refine run ?_
  exact D.fin1 [] _ rfl rfl ⟨by simp [h0], rfl⟩
theorem rightS_ct (ct dc rg : Int) : Ct prog 174 [.agg (List.toArray [.int .i64 ct, .int .i64 dc, .int .i64 rg])] [] (fun r H' => r = .bool (decide (RightS ct dc rg)) ∧ H' = []) := by
 refine Ct.mk' func174 rfl rfl rfl (fun g R => ?_)
 try simp only [ca]
 simp only [na]
 by_cases h0 : 1 ≤ ct
 ·by_cases h1 : ct ≤ 1099511627776
  ·by_cases h2 : 0 ≤ dc
   ·by_cases h3 : dc < 3
    ·by_cases h4 : 0 ≤ rg
     ·repeat' (first | refine run ?_ | refine bx rfl (fun _ => ?_) | fail)
      exact D.fin1 [] _ rfl rfl ⟨by simp [h0, h1, h2, h3, h4], rfl⟩
     ·repeat' (first | refine run ?_ | refine bx rfl (fun _ => ?_) | fail)
      exact D.fin1 [] _ rfl rfl ⟨by simp [h0, h1, h2, h3, h4], rfl⟩
    ·repeat' (first | refine run ?_ | refine bx rfl (fun _ => ?_) | fail)
     exact D.fin1 [] _ rfl rfl ⟨by simp [h0, h1, h2, h3], rfl⟩
   ·repeat' (first | refine run ?_ | refine bx rfl (fun _ => ?_) | fail)
    exact D.fin1 [] _ rfl rfl ⟨by simp [h0, h1, h2], rfl⟩
  ·repeat' (first | refine run ?_ | refine bx rfl (fun _ => ?_) | fail)
   exact D.fin1 [] _ rfl rfl ⟨by simp [h0, h1], rfl⟩
 ·repeat' (first | refine run ?_ | refine bx rfl (fun _ => ?_) | fail)
  exact D.fin1 [] _ rfl rfl ⟨by simp [h0], rfl⟩
def V9.row (v : V9) (d : Nat) : List Value := [.int .i64 (v.at (3 * d)), .int .i64 (v.at (3 * d + 1)), .int .i64 (v.at (3 * d + 2))]
theorem V9.row_is (v : V9) {d : Nat} (h : d < 3) : (v.enc.drop (d * 3)).take 3 = v.row d := by
 rcases (by omega : d = 0 ∨ d = 1 ∨ d = 2) with rfl | rfl | rfl <;> rfl
theorem V9.row_at (v : V9) (d : Nat) {r : Nat} (h : r < 3) : (v.row d)[r]? = some (.int .i64 (v.at (3 * d + r))) := by
 rcases (by omega : r = 0 ∨ r = 1 ∨ r = 2) with rfl | rfl | rfl <;> rfl
theorem rightV_ct (v : V9) : Ct prog 175 [.agg (List.toArray v.enc)] [] (fun r H' => r = .bool (decide (RightV v)) ∧ H' = []) := by
 refine Ct.mk' func175 rfl rfl rfl (fun g R => ?_)
 try simp only [ca]
 simp only [na]
 repeat' (first | refine run ?_ | refine bx rfl (fun _ => ?_) | fail)
 refine W.loop (α := Nat) (fun d => d ≤ 3 ∧ ∀ i, i < 3 * d → 0 ≤ v.at i ∧ v.at i ≤ MC) (fun d => [(7, .agg (List.toArray v.enc)), (8, .int .i64 (d : Int))]) (fun _ => [R]) (fun d => 3 - d) 0 ⟨Nat.zero_le _, fun i hi => absurd hi (Nat.not_lt_zero _)⟩ (by repeat (first | exact Fsub.nil | refine Fsub.cons rfl ?_)) (Hsub.of_picks inferInstance) ?_
 rintro d ⟨hd, hall⟩
 by_cases hlt : d < 3
 ·have hrow := v.row_is hlt
  try refine run ?_
  refine I.ixv ?_
  refine WX.ixA rfl rfl hlt hrow rfl ?_
  repeat' (first | refine run ?_ | refine al (fun _ => ?_) | fail)
  refine W.loop (α := Nat) (fun r => r ≤ 3 ∧ ∀ i, i < 3 * d + r → 0 ≤ v.at i ∧ v.at i ≤ MC) (fun r => [(7, .agg (List.toArray v.enc)), (8, .int .i64 (d : Int)), (11, .agg (List.toArray (v.row d))), (12, .int .i64 (r : Int))]) (fun _ => [R]) (fun r => 3 - r) 0 ⟨Nat.zero_le _, hall⟩ (by repeat (first | exact Fsub.nil | refine Fsub.cons rfl ?_)) (Hsub.of_picks inferInstance) ?_
  rintro r ⟨hr, hall2⟩
  by_cases hlr : r < 3
  ·have hel := v.row_at d hlr
   generalize hx : v.at (3 * d + r) = x at hel
   by_cases hg : 0 ≤ x ∧ x ≤ 1099511627776
   ·obtain ⟨g1, g2⟩ := hg
    try refine run ?_
    refine I.ixv ?_
    refine WX.ix1 rfl rfl hlr hel rfl ?_
    try refine run ?_
    refine D.rd (r + 1) ⟨by omega, fun i hi => ?_⟩ (by omega)
    rcases Nat.lt_or_ge i (3 * d + r) with h | h
    ·exact hall2 i h
    ·obtain rfl : i = 3 * d + r := by omega
     rw [hx]; exact ⟨g1, g2⟩
   ·have hno : ¬ RightV v := fun h => hg (by have := h (3 * d + r) (by omega); rw [hx] at this; exact this)
    by_cases g1 : x < 0
    ·try refine run ?_
     refine I.ixv ?_
     refine WX.ix1 rfl rfl hlr hel rfl ?_
     try refine run ?_
     exact D.fin1 [] _ rfl rfl ⟨by rw [decide_eq_false hno], rfl⟩
    ·have g2 : 1099511627776 < x := by omega
     try refine run ?_
     refine I.ixv ?_
     refine WX.ix1 rfl rfl hlr hel rfl ?_
     try refine run ?_
     exact D.fin1 [] _ rfl rfl ⟨by rw [decide_eq_false hno], rfl⟩
  ·obtain rfl : r = 3 := by omega
   try refine run ?_
   exact D.rd (d + 1) ⟨by omega, fun i hi => hall2 i (by omega)⟩ (by omega)
 ·obtain rfl : d = 3 := by omega
  try refine run ?_
  exact D.fin1 [] _ rfl rfl ⟨by rw [decide_eq_true (show RightV v from hall)], rfl⟩
end Go.Proofs.YtejfahjgfedliaaGreat

namespace Go.Proofs.YtejfahjgfedliaaGreat
open Go Go.Sl Go.Proofs.Tryz List
theorem mergeV_take {vs : List V9} {i : Nat} {x : V9} (h : vs[i]? = some x) : mergeV (vs.take (i + 1)) = merge2 (mergeV (vs.take i)) x := by
 unfold mergeV
 rw [take_add_one, h, foldl_append]; rfl
set_option maxRecDepth 4000 in
theorem merge_ct {vs : List V9} {u : Value} {h : Hp} (hs : Rs vs u h) (hl : vs.length ≤ 1000000) :
  Ct prog 123 [u] [h] (fun r H' => r = .agg (List.toArray (mergeV vs).enc) ∧ H' = [h]) := by
 refine Ct.mk' func123 rfl rfl rfl (fun g R => ?_)
 try simp only [ca]
 simp only [na]
 repeat' (first | refine run ?_ | refine al (fun _ => ?_) | fail)
 rename_i b2 b3
 refine W.hp (H' := [VcBk b3 (mergeV (vs.take 0)), VcBk b2 V9.z, h, R]) rfl ?_
 refine W.loop (α := Nat) (fun i => i ≤ vs.length) (fun i => [(2, .pointer (some ⟨b2, 0, none⟩)), (3, .pointer (some ⟨b3, 0, none⟩)), (8, u), (9, .int .i64 (vs.length : Int)), (10, .int .i64 (i : Int))]) (fun i => [VcBk b3 (mergeV (vs.take i)), VcBk b2 V9.z, h, R]) (fun i => vs.length - i) 0 (Nat.zero_le _) (by repeat (first | exact Fsub.nil | refine Fsub.cons rfl ?_)) (Hsub.of_picks inferInstance) ?_
 intro i hi
 by_cases hlt : i < vs.length
 ·obtain ⟨x, hx⟩ : ∃ x, vs[i]? = some x := ⟨_, List.getElem?_eq_getElem hlt⟩
  have hnx := mergeV_take hx
  generalize mergeV (vs.take i) = o at hnx ⊢
  repeat' (first | refine run ?_ | refine al (fun _ => ?_) | fail)
  rename_i b5
  refine W.hp (H' := [VcBk b5 x, VcBk b3 (mergeK o x (3 * 0)), VcBk b2 V9.z, h, R]) (by rw [mergeK_0]; rfl) ?_
  refine W.loop (α := Nat) (fun d => d ≤ 3) (fun d => [(2, .pointer (some ⟨b2, 0, none⟩)), (3, .pointer (some ⟨b3, 0, none⟩)), (5, .pointer (some ⟨b5, 0, none⟩)), (8, u), (9, .int .i64 (vs.length : Int)), (10, .int .i64 (i : Int)), (14, .int .i64 (d : Int))]) (fun d => [VcBk b5 x, VcBk b3 (mergeK o x (3 * d)), VcBk b2 V9.z, h, R]) (fun d => 3 - d) 0 (Nat.zero_le _) (by repeat (first | exact Fsub.nil | refine Fsub.cons rfl ?_)) (Hsub.of_picks inferInstance) ?_
  intro d hd
  by_cases hld : d < 3
  ·try refine run ?_
   refine W.loop (α := Nat) (fun r => r ≤ 3) (fun r => [(2, .pointer (some ⟨b2, 0, none⟩)), (3, .pointer (some ⟨b3, 0, none⟩)), (5, .pointer (some ⟨b5, 0, none⟩)), (6, .int .i64 (d : Int)), (8, u), (9, .int .i64 (vs.length : Int)), (10, .int .i64 (i : Int)), (14, .int .i64 (d : Int)), (17, .int .i64 (r : Int))]) (fun r => [VcBk b5 x, VcBk b3 (mergeK o x (3 * d + r)), VcBk b2 V9.z, h, R]) (fun r => 3 - r) 0 (Nat.zero_le _) (by repeat (first | exact Fsub.nil | refine Fsub.cons rfl ?_)) (Hsub.of_picks inferInstance) ?_
   intro r hr
   by_cases hlr : r < 3
   ·have hk : 3 * d + r < 9 := by omega
    have e0 : 0 + ((d : Nat) : Int).toNat * 3 + ((r : Nat) : Int).toNat * 1 = 3 * d + r := by show 0 + d * 3 + r * 1 = _; omega
    have g1 : (mergeK o x (3 * d + r)).enc[0 + ((d : Nat) : Int).toNat * 3 + ((r : Nat) : Int).toNat * 1]? = some (.int .i64 (o.at (3 * d + r))) := by rw [e0, V9.enc_at _ hk, mergeK_at _ _ hk]
    have g2 : x.enc[0 + ((d : Nat) : Int).toNat * 3 + ((r : Nat) : Int).toNat * 1]? = some (.int .i64 (x.at (3 * d + r))) := by rw [e0, V9.enc_at _ hk]
    have g3 : (mergeK o x (3 * d + r)).enc.set (0 + ((d : Nat) : Int).toNat * 3 + ((r : Nat) : Int).toNat * 1) (.int .i64 (mx (o.at (3 * d + r)) (x.at (3 * d + r)))) = (mergeK o x (3 * d + (r + 1))).enc := by rw [e0, V9.enc_put _ hk, mergeK_put _ _ hk]; rfl
    have g4 : Nat.blt (0 + ((d : Nat) : Int).toNat * 3 + ((r : Nat) : Int).toNat * 1) (mergeK o x (3 * d + r)).enc.length = true := Nat.ble_eq_true_of_le (by rw [e0]; show 3 * d + r + 1 ≤ 9; omega)
    try refine run ?_
    refine W.mixN 8 (List.replicate 15 true) [VcBk b5 x, VcBk b3 (mergeK o x (3 * d + r))] Tryz.mix (by kernel_rfl) ?_
    repeat' (first | refine run ?_ | refine lN x.enc _ rfl ?_ (hc := g2) | refine lN (mergeK o x (3 * d + r)).enc _ rfl ?_ (hc := g1) | fail)
    refine I.st ?_
    refine stN (mergeK o x (3 * d + r)).enc (mergeK o x (3 * d + (r + 1))).enc rfl rfl ?_ (e := g3) (hb := g4)
    try refine run ?_
    exact D.rd (r + 1) (by omega) (by omega)
   ·obtain rfl : r = 3 := by omega
    try refine run ?_
    exact D.rd (d + 1) (by omega) (by omega)
  ·obtain rfl : d = 3 := by omega
   rw [show mergeK o x (3 * 3) = mergeV (vs.take (i + 1)) by rw [hnx]; rfl]
   try refine run ?_
   exact D.rd (i + 1) (by omega) (by omega)
 ·obtain rfl : i = vs.length := by omega
  rw [take_length]
  generalize mergeV vs = o
  try refine run ?_
  exact D.finR1 [h] _ rfl (.cellA rfl rfl .nil) ⟨rfl, rfl⟩
structure Dt where
 (dc rg sq : Int)
def Dt.enc (d : Dt) : List Value := [.int .i64 d.dc, .int .i64 d.rg, .int .i64 d.sq]
instance : Enc Dt := ⟨3, Dt.enc, fun _ => rfl, fun _ => rfl, by decide⟩
abbrev DtBk3 (b : Nat) (d : Dt) : Hp := [(b, .cells (List.toArray d.enc) 39 (0, 0))]
def withL (v : V9) (ds : List Dt) : V9 := ds.foldl (fun o d => withD o d.dc d.rg d.sq) v
theorem withL_take {v : V9} {ds : List Dt} {i : Nat} {x : Dt} (h : ds[i]? = some x) : withL v (ds.take (i + 1)) = withD (withL v (ds.take i)) x.dc x.rg x.sq := by
 unfold withL
 rw [take_add_one, h, foldl_append]; rfl
set_option maxRecDepth 4000 in
theorem with3_ct (v : V9) {ds : List Dt} {u : Value} {h : Hp} (hs : Rs ds u h) (hl : ds.length ≤ 1000000) :
  Ct prog 182 [.agg (List.toArray v.enc), u] [h] (fun r H' => r = .agg (List.toArray (withL v ds).enc) ∧ H' = [h]) := by
 refine Ct.mk' func182 rfl rfl rfl (fun g R => ?_)
 try simp only [ca]
 simp only [na]
 repeat' (first | refine run ?_ | refine bx rfl (fun _ => ?_) | refine al (fun _ => ?_) | fail)
 rename_i b2 b4
 refine W.hp (H' := [VcBk b4 V9.z, VcBk b2 (withL v (ds.take 0)), h, R]) rfl ?_
 refine W.loop (α := Nat) (fun i => i ≤ ds.length) (fun i => [(2, .pointer (some ⟨b2, 0, none⟩)), (4, .pointer (some ⟨b4, 0, none⟩)), (7, u), (8, .int .i64 (ds.length : Int)), (9, .int .i64 (i : Int))]) (fun i => [VcBk b2 (withL v (ds.take i)), VcBk b4 V9.z, h, R]) (fun i => ds.length - i) 0 (Nat.zero_le _) (by repeat (first | exact Fsub.nil | refine Fsub.cons rfl ?_)) (Hsub.of_picks inferInstance) ?_
 intro i hi
 by_cases hlt : i < ds.length
 ·obtain ⟨x, hx⟩ : ∃ x, ds[i]? = some x := ⟨_, List.getElem?_eq_getElem hlt⟩
  have hnx := withL_take (v := v) hx
  generalize withL v (ds.take i) = o at hnx ⊢
  have hch := chainD_ct x.dc x.rg
  by_cases hD : ChainD x.dc x.rg
  ·rw [decide_eq_true hD] at hch
   rw [show withD o x.dc x.rg x.sq = _ from if_pos hD] at hnx
   obtain ⟨c1, c2, c3, c4⟩ := hD
   have hk : x.dc.toNat * 3 + x.rg.toNat < 9 := by omega
   have e0 : 0 + x.dc.toNat * 3 + x.rg.toNat * 1 = x.dc.toNat * 3 + x.rg.toNat := by omega
   have g1 : o.enc[0 + x.dc.toNat * 3 + x.rg.toNat * 1]? = some (.int .i64 (o.at (x.dc.toNat * 3 + x.rg.toNat))) := by rw [e0, V9.enc_at _ hk]
   have g3 : o.enc.set (0 + x.dc.toNat * 3 + x.rg.toNat * 1) (.int .i64 (mx (o.at (x.dc.toNat * 3 + x.rg.toNat)) x.sq)) = (withL v (ds.take (i + 1))).enc := by rw [e0, V9.enc_put _ hk, hnx]
   have g4 : Nat.blt (0 + x.dc.toNat * 3 + x.rg.toNat * 1) o.enc.length = true := Nat.ble_eq_true_of_le (by rw [e0]; show x.dc.toNat * 3 + x.rg.toNat + 1 ≤ 9; omega)
   repeat' (first | refine run ?_ | refine al (fun _ => ?_) | refine WX.callQ rfl hch rfl ?_ | fail)
   rename_i b6
   refine W.mixN 8 (List.replicate 16 true) [DtBk3 b6 x, VcBk b2 o] Tryz.mix (by kernel_rfl) ?_
   repeat' (first | refine run ?_ | refine lN o.enc _ rfl ?_ (hc := g1) | fail)
   refine I.st ?_
   refine stN o.enc (withL v (ds.take (i + 1))).enc rfl rfl ?_ (e := g3) (hb := g4)
   try refine run ?_
   exact D.rd (i + 1) (by omega) (by omega)
  ·rw [decide_eq_false hD] at hch
   rw [show withD o x.dc x.rg x.sq = _ from if_neg hD] at hnx
   repeat' (first | refine run ?_ | refine al (fun _ => ?_) | refine WX.callQ rfl hch rfl ?_ | fail)
   rw [← hnx]
   exact D.rd (i + 1) (by omega) (by omega)
 ·obtain rfl : i = ds.length := by omega
  rw [take_length]
  generalize withL v ds = o
  try refine run ?_
  exact D.finR1 [h] _ rfl (.cellA rfl rfl .nil) ⟨rfl, rfl⟩
theorem pastM_take {es : List Ent} {i : Nat} {x : Ent} (h : es[i]? = some x) : pastM (es.take (i + 1)) = mergeV [pastM (es.take i), x.dp] := by
 unfold pastM
 rw [take_add_one, h, foldl_append]; rfl
def pastW (o : V9) (es : List Ent) : V9 := es.foldl (fun o e => withD o e.dc e.rg e.sq) o
theorem pastW_take {o : V9} {es : List Ent} {i : Nat} {x : Ent} (h : es[i]? = some x) : pastW o (es.take (i + 1)) = withL (pastW o (es.take i)) [⟨x.dc, x.rg, x.sq⟩] := by
 unfold pastW
 rw [take_add_one, h, foldl_append]; rfl
set_option maxRecDepth 4000 in
theorem past_ct {es : List Ent} {u : Value} {h : Hp} (hs : Rs es u h) (hl : es.length ≤ 1000000) :
  Ct prog 124 [u] [h] (fun r H' => r = .agg (List.toArray (pastV es).enc) ∧ H' = [h]) := by
 refine Ct.mk' func124 rfl rfl rfl (fun g R => ?_)
 try simp only [ca]
 simp only [na]
 repeat' (first | refine runS ?_ | refine al (fun _ => ?_) | fail)
 rename_i b2 b3
 refine W.hp (H' := [VcBk b3 (pastM (es.take 0)), VcBk b2 V9.z, h, R]) rfl ?_
 refine W.loop (α := Nat) (fun i => i ≤ es.length) (fun i => [(0, u), (2, .pointer (some ⟨b2, 0, none⟩)), (3, .pointer (some ⟨b3, 0, none⟩)), (8, u), (9, .int .i64 (es.length : Int)), (10, .int .i64 (i : Int))]) (fun i => [VcBk b3 (pastM (es.take i)), VcBk b2 V9.z, h, R]) (fun i => es.length - i) 0 (Nat.zero_le _) (by repeat (first | exact Fsub.nil | refine Fsub.cons rfl ?_)) (Hsub.of_picks inferInstance) ?_
 intro i hi
 by_cases hlt : i < es.length
 ·obtain ⟨x, hx⟩ : ∃ x, es[i]? = some x := ⟨_, List.getElem?_eq_getElem hlt⟩
  have hnx := pastM_take hx
  generalize pastM (es.take i) = o at hnx ⊢
  repeat' (first | refine runS ?_ | refine al (fun _ => ?_) | refine WX.loadEW rfl hs hx rfl rfl ?_ | refine lAN o.enc o.enc rfl ?_ | refine lAN x.enc x.dp.enc rfl ?_ | refine sGW Ent.z.enc x.enc rfl rfl ?_ | fail)
  refine I.bs ?_
  refine WX.lit (ys := [o, x.dp]) rfl rfl rfl rfl rfl rfl (by decide) rfl (fun v2 h2 hs2 => ?_)
  skip
  refine WX.callQ rfl (merge_ct hs2.rs (by simp)) rfl ?_
  rw [← hnx]
  repeat' (first | refine runS ?_ | refine sGW o.enc (pastM (es.take (i + 1))).enc rfl rfl ?_ | fail)
  exact D.rd (i + 1) (by omega) (by omega)
 ·obtain rfl : i = es.length := by omega
  rw [take_length]
  obtain ⟨o, ho⟩ : ∃ o, pastM es = o := ⟨_, rfl⟩
  have hfin : pastV es = pastW o es := by rw [← ho]; rfl
  rw [ho, hfin]
  try refine runS ?_
  refine W.hp (H' := [VcBk b3 (pastW o (es.take 0)), VcBk b2 V9.z, h, R]) rfl ?_
  refine W.loop (α := Nat) (fun i => i ≤ es.length) (fun i => [(2, .pointer (some ⟨b2, 0, none⟩)), (3, .pointer (some ⟨b3, 0, none⟩)), (20, u), (21, .int .i64 (es.length : Int)), (22, .int .i64 (i : Int))]) (fun i => [VcBk b3 (pastW o (es.take i)), VcBk b2 V9.z, h, R]) (fun i => es.length - i) 0 (Nat.zero_le _) (by repeat (first | exact Fsub.nil | refine Fsub.cons rfl ?_)) (Hsub.of_picks inferInstance) ?_
  clear ho hfin
  intro i hi
  by_cases hlt : i < es.length
  ·obtain ⟨x, hx⟩ : ∃ x, es[i]? = some x := ⟨_, List.getElem?_eq_getElem hlt⟩
   have hnx := pastW_take (o := o) hx
   generalize pastW o (es.take i) = o2 at hnx ⊢
   repeat' (first | refine runS ?_ | refine al (fun _ => ?_) | refine WX.loadEW rfl hs hx rfl rfl ?_ | refine lAN o2.enc o2.enc rfl ?_ | refine lAN x.enc (Dt.enc ⟨x.dc, x.rg, x.sq⟩) rfl ?_ | refine sGW Ent.z.enc x.enc rfl rfl ?_ | fail)
   refine I.bs ?_
   refine WX.lit (ys := [(⟨x.dc, x.rg, x.sq⟩ : Dt)]) rfl rfl rfl rfl rfl rfl (by decide) rfl (fun v2 h2 hs2 => ?_)
   skip
   refine WX.callQ rfl (with3_ct o2 hs2.rs (by simp)) rfl ?_
   rw [← hnx]
   repeat' (first | refine runS ?_ | refine sGW o2.enc (pastW o (es.take (i + 1))).enc rfl rfl ?_ | fail)
   exact D.rd (i + 1) (by omega) (by omega)
  ·obtain rfl : i = es.length := by omega
   rw [take_length]
   generalize pastW o es = o2
   repeat' (first | refine runS ?_ | refine lAN o2.enc o2.enc rfl ?_ | refine sGW V9.z.enc o2.enc rfl rfl ?_ | fail)
   exact D.finR1 [h] _ rfl (.cellA rfl rfl .nil) ⟨rfl, rfl⟩
def partK (v : V9) (rg : Nat) (k : Nat) : V3 := ⟨if 0 < k then v.at rg else 0, if 1 < k then v.at (3 + rg) else 0, if 2 < k then v.at (6 + rg) else 0⟩
theorem partK_put (v : V9) (rg : Nat) {k : Nat} (h : k < 3) : (partK v rg k).put k (v.at (3 * k + rg)) = partK v rg (k + 1) := by
 rcases (by omega : k = 0 ∨ k = 1 ∨ k = 2) with rfl | rfl | rfl
 ·simp [partK, V3.put]
 ·simp [partK, V3.put]
 ·simp [partK, V3.put]
set_option maxRecDepth 4000 in
theorem part_ct (v : V9) (rg : Int) :
  Ct prog 180 [.agg (List.toArray v.enc), .int .i64 rg] [] (fun r H' => r = .agg (List.toArray (partV v rg).enc) ∧ H' = []) := by
 refine Ct.mk' func180 rfl rfl rfl (fun g R => ?_)
 try simp only [ca]
 simp only [na]
 repeat' (first | refine runS ?_ | refine bx rfl (fun _ => ?_) | refine al (fun _ => ?_) | fail)
 rename_i b2 b4 b5
 by_cases hrg : 0 ≤ rg ∧ rg < 3
 ·obtain ⟨r1, r2⟩ := hrg
  rw [show partV v rg = partK v rg.toNat 3 by unfold partV; rw [if_pos ⟨r1, r2⟩]; simp [partK]]
  refine W.hp (H' := [ClBk b5 (partK v rg.toNat 0), ClBk b4 V3.z, VcBk b2 v, R]) rfl ?_
  refine W.loop (α := Nat) (fun k => k ≤ 3) (fun k => [(1, .int .i64 rg), (2, .pointer (some ⟨b2, 0, none⟩)), (4, .pointer (some ⟨b4, 0, none⟩)), (5, .pointer (some ⟨b5, 0, none⟩)), (7, .int .i64 (k : Int))]) (fun k => [ClBk b5 (partK v rg.toNat k), ClBk b4 V3.z, VcBk b2 v, R]) (fun k => 3 - k) 0 (Nat.zero_le _) (by repeat (first | exact Fsub.nil | refine Fsub.cons rfl ?_)) (Hsub.of_picks inferInstance) ?_
  intro k hk
  by_cases hlt : k < 3
  ·have hch := chainD_ct (k : Int) rg
   rw [decide_eq_true (show ChainD (k : Int) rg by refine ⟨?_, ?_, r1, r2⟩ <;> omega)] at hch
   have hb : 3 * k + rg.toNat < 9 := by omega
   have g1 : v.enc[0 + ((k : Nat) : Int).toNat * 3 + rg.toNat * 1]? = some (.int .i64 (v.at (3 * k + rg.toNat))) := by rw [show 0 + ((k : Nat) : Int).toNat * 3 + rg.toNat * 1 = 3 * k + rg.toNat by show 0 + k * 3 + rg.toNat * 1 = _; omega, V9.enc_at _ hb]
   have g3 : (partK v rg.toNat k).enc.set (0 + ((k : Nat) : Int).toNat * 1) (.int .i64 (v.at (3 * k + rg.toNat))) = (partK v rg.toNat (k + 1)).enc := by rw [show 0 + ((k : Nat) : Int).toNat * 1 = k by show 0 + k * 1 = k; omega, V3.enc_put _ hlt, partK_put _ _ hlt]
   have g4 : Nat.blt (0 + ((k : Nat) : Int).toNat * 1) (partK v rg.toNat k).enc.length = true := Nat.ble_eq_true_of_le (by show 0 + k * 1 + 1 ≤ 3; omega)
   repeat' (first | refine runS ?_ | refine WX.callQ rfl hch rfl ?_ | refine lN v.enc _ rfl ?_ (hc := g1) | fail)
   refine I.st ?_
   refine stN (partK v rg.toNat k).enc (partK v rg.toNat (k + 1)).enc rfl rfl ?_ (e := g3) (hb := g4)
   try refine runS ?_
   exact D.rd (k + 1) (by omega) (by omega)
  ·obtain rfl : k = 3 := by omega
   generalize partK v rg.toNat 3 = o
   repeat' (first | refine runS ?_ | refine lAN o.enc o.enc rfl ?_ | refine sGW V3.z.enc o.enc rfl rfl ?_ | fail)
   exact D.finR1 [] _ rfl (.cellA rfl rfl .nil) ⟨rfl, rfl⟩
 ·rw [show partV v rg = V3.z from if_neg hrg]
  refine W.hp (H' := [ClBk b5 V3.z, ClBk b4 V3.z, VcBk b2 v, R]) rfl ?_
  refine W.loop (α := Nat) (fun k => k ≤ 3) (fun k => [(1, .int .i64 rg), (2, .pointer (some ⟨b2, 0, none⟩)), (4, .pointer (some ⟨b4, 0, none⟩)), (5, .pointer (some ⟨b5, 0, none⟩)), (7, .int .i64 (k : Int))]) (fun k => [ClBk b5 V3.z, ClBk b4 V3.z, VcBk b2 v, R]) (fun k => 3 - k) 0 (Nat.zero_le _) (by repeat (first | exact Fsub.nil | refine Fsub.cons rfl ?_)) (Hsub.of_picks inferInstance) ?_
  intro k hk
  by_cases hlt : k < 3
  ·have hch := chainD_ct (k : Int) rg
   rw [decide_eq_false (show ¬ ChainD (k : Int) rg from fun h => hrg h.2.2)] at hch
   repeat' (first | refine runS ?_ | refine WX.callQ rfl hch rfl ?_ | fail)
   exact D.rd (k + 1) (by omega) (by omega)
  ·obtain rfl : k = 3 := by omega
   repeat' (first | refine runS ?_ | refine lAN V3.z.enc V3.z.enc rfl ?_ | refine sGW V3.z.enc V3.z.enc rfl rfl ?_ | fail)
   exact D.finR1 [] _ rfl (.cellA rfl rfl .nil) ⟨rfl, rfl⟩
theorem covC_iff (a b : V3) : CovC a b ↔ ∀ i, i < 3 → b.at i ≤ a.at i := by
 constructor
 ·rintro ⟨h1, h2, h3⟩ i hi
  rcases (by omega : i = 0 ∨ i = 1 ∨ i = 2) with rfl | rfl | rfl
  ·exact h1
  ·exact h2
  ·exact h3
 ·intro h
  exact ⟨h 0 (by decide), h 1 (by decide), h 2 (by decide)⟩
theorem covC_ct (a b : V3) :
  Ct prog 179 [.agg (List.toArray a.enc), .agg (List.toArray b.enc)] [] (fun r H' => r = .bool (decide (CovC a b)) ∧ H' = []) := by
 have hiff := covC_iff a b
 refine Ct.mk' func179 rfl rfl rfl (fun g R => ?_)
 try simp only [ca]
 simp only [na]
 repeat' (first | refine runS ?_ | refine bx rfl (fun _ => ?_) | fail)
 rename_i b2 b3
 refine W.hp (H' := [ClBk b3 b, ClBk b2 a, R]) rfl ?_
 refine W.loop (α := Nat) (fun k => k ≤ 3 ∧ ∀ i, i < k → b.at i ≤ a.at i) (fun k => [(2, .pointer (some ⟨b2, 0, none⟩)), (3, .pointer (some ⟨b3, 0, none⟩)), (6, .int .i64 (k : Int))]) (fun k => [ClBk b3 b, ClBk b2 a, R]) (fun k => 3 - k) 0 ⟨Nat.zero_le _, fun i hi => absurd hi (Nat.not_lt_zero _)⟩ (by repeat (first | exact Fsub.nil | refine Fsub.cons rfl ?_)) (Hsub.of_picks inferInstance) ?_
 rintro k ⟨hk, hall⟩
 by_cases hlt : k < 3
 ·have g1 : a.enc[0 + ((k : Nat) : Int).toNat * 1]? = some (.int .i64 (a.at k)) := by rw [show 0 + ((k : Nat) : Int).toNat * 1 = k by show 0 + k * 1 = k; omega, V3.enc_at _ hlt]
  have g2 : b.enc[0 + ((k : Nat) : Int).toNat * 1]? = some (.int .i64 (b.at k)) := by rw [show 0 + ((k : Nat) : Int).toNat * 1 = k by show 0 + k * 1 = k; omega, V3.enc_at _ hlt]
  by_cases hc : b.at k ≤ a.at k
  ·try refine runS ?_
   refine W.quiet Tryz.mix (by kernel_rfl) ?_
   repeat' (first | refine runS ?_ | refine lN a.enc _ rfl ?_ (hc := g1) | refine lN b.enc _ rfl ?_ (hc := g2) | fail)
   refine D.rd (k + 1) ⟨by omega, fun i hi => ?_⟩ (by omega)
   rcases Nat.lt_or_ge i k with h | h
   ·exact hall i h
   ·obtain rfl : i = k := by omega
    exact hc
  ·have hno : ¬ CovC a b := fun h => hc (hiff.1 h k hlt)
   try refine runS ?_
   refine W.quiet Tryz.mix (by kernel_rfl) ?_
   repeat' (first | refine runS ?_ | refine lN a.enc _ rfl ?_ (hc := g1) | refine lN b.enc _ rfl ?_ (hc := g2) | fail)
   exact D.fin1 [] _ rfl rfl ⟨by rw [decide_eq_false hno], rfl⟩
 ·obtain rfl : k = 3 := by omega
  try refine runS ?_
  exact D.fin1 [] _ rfl rfl ⟨by rw [decide_eq_true (hiff.2 hall)], rfl⟩
theorem colF_take {rg : Int} {es : List Ent} {i : Nat} {x : Ent} (h : es[i]? = some x) : colF rg (es.take (i + 1)) = colStep rg (colF rg (es.take i)) x := by
 rw [take_add_one, h]; exact colF_snoc rg _ x
set_option maxRecDepth 4000 in
theorem column_ct (rg : Int) {es : List Ent} {u : Value} {h : Hp} (hs : Rs es u h) (hl : es.length ≤ 1000000) :
  Ct prog 181 [.int .i64 rg, u] [h] (fun r H' => r = .agg (List.toArray (colF rg es).enc) ∧ H' = [h]) := by
 refine Ct.mk' func181 rfl rfl rfl (fun g R => ?_)
 try simp only [ca]
 simp only [na]
 repeat' (first | refine runS ?_ | refine al (fun _ => ?_) | fail)
 rename_i b4 b5
 refine W.hp (H' := [ClBk b5 (colF rg (es.take 0)), ClBk b4 V3.z, h, R]) rfl ?_
 refine W.loop (α := Nat) (fun i => i ≤ es.length) (fun i => [(0, .int .i64 rg), (4, .pointer (some ⟨b4, 0, none⟩)), (5, .pointer (some ⟨b5, 0, none⟩)), (8, u), (9, .int .i64 (es.length : Int)), (10, .int .i64 (i : Int))]) (fun i => [ClBk b5 (colF rg (es.take i)), ClBk b4 V3.z, h, R]) (fun i => es.length - i) 0 (Nat.zero_le _) (by repeat (first | exact Fsub.nil | refine Fsub.cons rfl ?_)) (Hsub.of_picks inferInstance) ?_
 intro i hi
 by_cases hlt : i < es.length
 ·obtain ⟨x, hx⟩ : ∃ x, es[i]? = some x := ⟨_, List.getElem?_eq_getElem hlt⟩
  have hnx := colF_take (rg := rg) hx
  generalize colF rg (es.take i) = o at hnx ⊢
  have hch := chainD_ct x.dc rg
  by_cases hg : x.rg = rg
  ·by_cases hD : ChainD x.dc rg
   ·rw [decide_eq_true hD] at hch
    rw [show colStep rg o x = _ from if_pos ⟨hg, hD⟩] at hnx
    obtain ⟨c1, c2, c3, c4⟩ := hD
    have hk : x.dc.toNat < 3 := by omega
    have g1 : o.enc[0 + x.dc.toNat * 1]? = some (.int .i64 (o.at x.dc.toNat)) := by rw [show 0 + x.dc.toNat * 1 = x.dc.toNat by omega, V3.enc_at _ hk]
    have g3 : o.enc.set (0 + x.dc.toNat * 1) (.int .i64 (mx (o.at x.dc.toNat) x.sq)) = (colF rg (es.take (i + 1))).enc := by rw [show 0 + x.dc.toNat * 1 = x.dc.toNat by omega, V3.enc_put _ hk, hnx]
    have g4 : Nat.blt (0 + x.dc.toNat * 1) o.enc.length = true := Nat.ble_eq_true_of_le (by show 0 + x.dc.toNat * 1 + 1 ≤ 3; omega)
    repeat' (first | refine runS ?_ | refine al (fun _ => ?_) | refine WX.loadEW rfl hs hx rfl rfl ?_ | refine sGW Ent.z.enc x.enc rfl rfl ?_ | refine WX.callQ rfl hch rfl ?_ | fail)
    rename_i b7
    refine W.mixN 8 (List.replicate 13 true) [EnBk b7 x, ClBk b5 o] Tryz.mix (by kernel_rfl) ?_
    repeat' (first | refine runS ?_ | refine lN o.enc _ rfl ?_ (hc := g1) | fail)
    refine I.st ?_
    refine stN o.enc (colF rg (es.take (i + 1))).enc rfl rfl ?_ (e := g3) (hb := g4)
    try refine runS ?_
    exact D.rd (i + 1) (by omega) (by omega)
   ·rw [decide_eq_false hD] at hch
    rw [show colStep rg o x = _ from if_neg fun h => hD h.2] at hnx
    repeat' (first | refine runS ?_ | refine al (fun _ => ?_) | refine WX.loadEW rfl hs hx rfl rfl ?_ | refine sGW Ent.z.enc x.enc rfl rfl ?_ | refine WX.callQ rfl hch rfl ?_ | fail)
    rw [← hnx]
    exact D.rd (i + 1) (by omega) (by omega)
  ·rw [show colStep rg o x = _ from if_neg fun h => hg h.1] at hnx
   repeat' (first | refine runS ?_ | refine al (fun _ => ?_) | refine WX.loadEW rfl hs hx rfl rfl ?_ | refine sGW Ent.z.enc x.enc rfl rfl ?_ | fail)
   rw [← hnx]
   exact D.rd (i + 1) (by omega) (by omega)
 ·obtain rfl : i = es.length := by omega
  rw [take_length]
  generalize colF rg es = o
  repeat' (first | refine runS ?_ | refine lAN o.enc o.enc rfl ?_ | refine sGW V3.z.enc o.enc rfl rfl ?_ | fail)
  exact D.finR1 [h] _ rfl (.cellA rfl rfl .nil) ⟨rfl, rfl⟩
theorem mostI_take {xs : List Int} {i : Nat} {x : Int} (h : xs[i]? = some x) : mostI (xs.take (i + 1)) = mx (mostI (xs.take i)) x := by
 unfold mostI
 rw [take_add_one, h, foldl_append]; rfl
theorem mostI_nn (xs : List Int) : 0 ≤ mostI xs := by
 have key : ∀ (xs : List Int) (a : Int), 0 ≤ a → 0 ≤ xs.foldl mx a := by
  intro xs
  induction xs with
  | nil => intro a h; exact h
  | cons x t ih => intro a h; exact ih _ (Int.le_trans h (mx_le a x).1)
 exact key xs 0 (Int.le_refl 0)
def stampV (ok : Bool) (ct dc rg : Int) : List Value := if ok = true then [.int .i64 ct, .int .i64 dc, .int .i64 rg] else [.int .i64 0, .int .i64 0, .int .i64 0]
set_option maxRecDepth 4000 in
theorem next_ct (dc rg : Int) {xs : List Int} {u : Value} {h : Hp} (hs : Rs xs u h) (hl : xs.length ≤ 1000000) :
  Ct prog 120 [.int .i64 dc, .int .i64 rg, u] [h] (fun r H' => r = .tuple #[.agg (List.toArray (stampV (decide (RightS (nextCt xs) dc rg)) (nextCt xs) dc rg)), .bool (decide (RightS (nextCt xs) dc rg))] ∧ H' = [h]) := by
 have hnn := mostI_nn xs
 refine Ct.mk' func120 rfl rfl rfl (fun g R => ?_)
 try simp only [ca]
 simp only [na]
 repeat' (first | refine runS ?_ | refine al (fun _ => ?_) | fail)
 rename_i b6
 refine W.loop (α := Nat) (fun i => i ≤ xs.length) (fun i => [(0, .int .i64 dc), (1, .int .i64 rg), (6, .pointer (some ⟨b6, 0, none⟩)), (8, .int .i64 (mostI (xs.take i))), (12, u), (13, .int .i64 (xs.length : Int)), (14, .int .i64 (i : Int))]) (fun i => [[(b6, .cells (List.toArray [.int .i64 0, .int .i64 0, .int .i64 0]) 41 (0, 0))], h, R]) (fun i => xs.length - i) 0 (Nat.zero_le _) (by repeat (first | exact Fsub.nil | refine Fsub.cons rfl ?_)) (Hsub.of_picks inferInstance) ?_
 intro i hi
 by_cases hlt : i < xs.length
 ·obtain ⟨x, hx⟩ : ∃ x, xs[i]? = some x := ⟨_, List.getElem?_eq_getElem hlt⟩
  have hnx := mostI_take hx
  generalize mostI (xs.take i) = o at hnx ⊢
  try refine run ?_
  refine D.as 8 (.int .i64 (mostI (xs.take (i + 1)))) rfl (by rw [hnx]; rfl) ?_
  exact D.rd (i + 1) (by omega) (by omega)
 ·obtain rfl : i = xs.length := by omega
  rw [take_length]
  obtain ⟨o, ho⟩ : ∃ o, mostI xs = o := ⟨_, rfl⟩
  obtain ⟨c, hc⟩ : ∃ c, nextCt xs = c := ⟨_, rfl⟩
  have hco : (if 1099511627776 < o then 1099511627776 else o) + 1 = c := by rw [← hc, ← ho]; rfl
  rw [ho] at hnn
  rw [ho, hc]
  have hrs := rightS_ct c dc rg
  have hmin : 0 ≤ (if (1099511627776 : Int) < o then 1099511627776 else o) ∧ (if (1099511627776 : Int) < o then 1099511627776 else o) ≤ 1099511627776 := by split <;> omega
  try refine runS ?_
  rw [hco]
  by_cases hR : RightS c dc rg
  ·rw [decide_eq_true hR] at hrs ⊢
   repeat' (first | refine runS ?_ | refine al (fun _ => ?_) | refine lAN [.int .i64 c, .int .i64 dc, .int .i64 rg] [.int .i64 c, .int .i64 dc, .int .i64 rg] rfl ?_ | refine WX.callQ rfl hrs rfl ?_ | refine bdN (t := 41) [.int .i64 c, .int .i64 dc, .int .i64 rg] ?_ (hf' := by exact rfl) | refine sGW [.int .i64 0, .int .i64 0, .int .i64 0] [.int .i64 c, .int .i64 dc, .int .i64 rg] rfl rfl ?_ | fail)
   exact D.finR [h] _ rfl (.cellA rfl rfl (.tmp rfl .nil)) rfl ⟨rfl, rfl⟩
  ·rw [decide_eq_false hR] at hrs ⊢
   repeat' (first | refine runS ?_ | refine al (fun _ => ?_) | refine lAN [.int .i64 c, .int .i64 dc, .int .i64 rg] [.int .i64 c, .int .i64 dc, .int .i64 rg] rfl ?_ | refine WX.callQ rfl hrs rfl ?_ | refine bdN (t := 41) [.int .i64 c, .int .i64 dc, .int .i64 rg] ?_ (hf' := by exact rfl) | refine sGW [.int .i64 0, .int .i64 0, .int .i64 0] [.int .i64 c, .int .i64 dc, .int .i64 rg] rfl rfl ?_ | fail)
   refine I.bd ?_
   refine bdN (t := 41) [.int .i64 0, .int .i64 0, .int .i64 0] ?_ (hf' := by exact rfl)
   repeat' (first | refine runS ?_ | refine sGW [.int .i64 0, .int .i64 0, .int .i64 0] [.int .i64 0, .int .i64 0, .int .i64 0] rfl rfl ?_ | fail)
   exact D.finR [h] _ rfl (.cellA rfl rfl (.tmp rfl .nil)) rfl ⟨rfl, rfl⟩
end Go.Proofs.YtejfahjgfedliaaGreat

namespace Go.Proofs.YtejfahjgfedliaaGreat
open Go Go.Sl Go.Proofs.Tryz
set_option maxRecDepth 4000 in
set_option maxHeartbeats 2000000 in
theorem entR_ct (e : Ent) : Ct prog 117 [.agg (List.toArray e.enc)] [] (fun r H' => r = .bool (decide (EntR e)) ∧ H' = []) := by
 have hch := chainD_ct e.dc e.rg
 have hst := rightS_ct e.ct e.sd e.sr
 have hrv := rightV_ct e.dp
 refine Ct.mk' func117 rfl rfl rfl (fun g R => ?_)
 try simp only [ca]
 simp only [na]
 by_cases c1 : ChainD e.dc e.rg
 rw [decide_eq_true c1] at hch
 by_cases c2 : 1 ≤ e.sq
 by_cases c3 : e.sq ≤ 1099511627776
 by_cases c4 : RightS e.ct e.sd e.sr
 rw [decide_eq_true c4] at hst
 by_cases c5 : e.sd = e.dc
 by_cases c6 : e.sr = e.rg
 by_cases c7 : 1 ≤ (e.key.size : Int)
 by_cases c8 : (e.key.size : Int) ≤ 16
 by_cases c9 : (e.val.size : Int) ≤ 32
 ·obtain ⟨d1, d2, d3, d4⟩ := c1
  have hb : e.dc.toNat * 3 + e.rg.toNat < 9 := by omega
  obtain ⟨y, hy⟩ : ∃ y, e.dp.at (e.dc.toNat * 3 + e.rg.toNat) = y := ⟨_, rfl⟩
  have g1 : e.enc[0 + 9 + e.dc.toNat * 3 + e.rg.toNat * 1]? = some (.int .i64 y) := by
   rw [← hy, show 0 + 9 + e.dc.toNat * 3 + e.rg.toNat * 1 = 9 + (e.dc.toNat * 3 + e.rg.toNat) by omega, ← List.getElem?_drop, show e.enc.drop 9 = e.dp.enc ++ [.int .i64 e.cl, .int .i64 e.op] from rfl, List.getElem?_append_left (by show _ < 9; exact hb), V9.enc_at _ hb]
  cases hd : e.dead with
  | false =>
   skip
   by_cases q1 : RightV e.dp
   rw [decide_eq_true q1] at hrv
   by_cases q2 : y = e.sq - 1
   by_cases k1 : 0 ≤ e.cl
   by_cases k2 : e.cl < 4
   by_cases k3 : 1 ≤ e.op
   by_cases k4 : e.op ≤ 1099511627776
   ·have hyes : EntR e := ⟨⟨d1, d2, d3, d4⟩, ⟨c2, c3⟩, c4, c5, c6, ⟨by omega, by omega⟩, by omega, (fun h => by rw [hd] at h; cases h), q1, by rw [hy]; exact q2, ⟨k1, k2⟩, ⟨k3, k4⟩⟩
    skip
    skip
    repeat' (first | refine runS ?_ | refine gS (fun _ => ?_) (fun _ => ?_) | refine bx rfl (fun _ => ?_) | refine al (fun _ => ?_) | refine WX.callQ rfl hch rfl ?_ | refine WX.callQ rfl hst rfl ?_ | refine lAN (t := 39) e.enc [.int .i64 e.dc, .int .i64 e.rg, .int .i64 e.sq] rfl ?_ | refine lAN (t := 41) e.enc [.int .i64 e.ct, .int .i64 e.sd, .int .i64 e.sr] rfl ?_ | refine sGW [.int .i64 0, .int .i64 0, .int .i64 0] [.int .i64 e.dc, .int .i64 e.rg, .int .i64 e.sq] rfl rfl ?_ | fail)
    rw [hd]
    skip
    repeat' (first | refine runS ?_ | refine gS (fun _ => ?_) (fun _ => ?_) | refine bx rfl (fun _ => ?_) | refine al (fun _ => ?_) | refine WX.callQ rfl hch rfl ?_ | refine WX.callQ rfl hst rfl ?_ | refine lAN (t := 39) e.enc [.int .i64 e.dc, .int .i64 e.rg, .int .i64 e.sq] rfl ?_ | refine lAN (t := 41) e.enc [.int .i64 e.ct, .int .i64 e.sd, .int .i64 e.sr] rfl ?_ | refine sGW [.int .i64 0, .int .i64 0, .int .i64 0] [.int .i64 e.dc, .int .i64 e.rg, .int .i64 e.sq] rfl rfl ?_ | fail)
    rename_i b1 b3
    refine W.hp (H' := [[(b3, .cells (List.toArray [.int .i64 e.dc, .int .i64 e.rg, .int .i64 e.sq]) 39 (0, 0))], EnBk b1 e, R]) rfl ?_
    refine W.quiet Tryz.mix (by kernel_rfl) ?_
    repeat' (first | refine runS ?_ | refine gS (fun _ => ?_) (fun _ => ?_) | refine bx rfl (fun _ => ?_) | refine al (fun _ => ?_) | refine WX.callQ rfl hrv rfl ?_ | refine lAN (t := 37) e.enc e.dp.enc rfl ?_ | refine lN e.enc _ rfl ?_ (hc := g1) | fail)
    exact D.fin1 [] _ rfl rfl ⟨by rw [decide_eq_true hyes]; simp [k4], rfl⟩
   all_goals
    have hno : ¬ EntR e := by first | exact fun h => q1 h.dp | exact fun h => q2 (hy ▸ h.own) | exact fun h => k1 h.cl.1 | exact fun h => k2 h.cl.2 | exact fun h => k3 h.op.1 | exact fun h => k4 h.op.2
    try rw [decide_eq_false q1] at hrv
    skip
    skip
    repeat' (first | refine runS ?_ | refine gS (fun _ => ?_) (fun _ => ?_) | refine bx rfl (fun _ => ?_) | refine al (fun _ => ?_) | refine WX.callQ rfl hch rfl ?_ | refine WX.callQ rfl hst rfl ?_ | refine lAN (t := 39) e.enc [.int .i64 e.dc, .int .i64 e.rg, .int .i64 e.sq] rfl ?_ | refine lAN (t := 41) e.enc [.int .i64 e.ct, .int .i64 e.sd, .int .i64 e.sr] rfl ?_ | refine sGW [.int .i64 0, .int .i64 0, .int .i64 0] [.int .i64 e.dc, .int .i64 e.rg, .int .i64 e.sq] rfl rfl ?_ | fail)
    rw [hd]
    skip
    repeat' (first | refine runS ?_ | refine gS (fun _ => ?_) (fun _ => ?_) | refine bx rfl (fun _ => ?_) | refine al (fun _ => ?_) | refine WX.callQ rfl hch rfl ?_ | refine WX.callQ rfl hst rfl ?_ | refine lAN (t := 39) e.enc [.int .i64 e.dc, .int .i64 e.rg, .int .i64 e.sq] rfl ?_ | refine lAN (t := 41) e.enc [.int .i64 e.ct, .int .i64 e.sd, .int .i64 e.sr] rfl ?_ | refine sGW [.int .i64 0, .int .i64 0, .int .i64 0] [.int .i64 e.dc, .int .i64 e.rg, .int .i64 e.sq] rfl rfl ?_ | fail)
    rename_i b1 b3
    refine W.hp (H' := [[(b3, .cells (List.toArray [.int .i64 e.dc, .int .i64 e.rg, .int .i64 e.sq]) 39 (0, 0))], EnBk b1 e, R]) rfl ?_
    refine W.quiet Tryz.mix (by kernel_rfl) ?_
    repeat' (first | refine runS ?_ | refine gS (fun _ => ?_) (fun _ => ?_) | refine bx rfl (fun _ => ?_) | refine al (fun _ => ?_) | refine WX.callQ rfl hrv rfl ?_ | refine lAN (t := 37) e.enc e.dp.enc rfl ?_ | refine lN e.enc _ rfl ?_ (hc := g1) | fail)
    exact D.fin1 [] _ rfl rfl ⟨by rw [decide_eq_false hno]; first | done | simp [k4], rfl⟩
  | true =>
   by_cases hv : e.val = ⟨#[]⟩
   ·have hv2 : ¬ ¬ e.val = ⟨#[]⟩ := fun h => h hv
    by_cases q1 : RightV e.dp
    rw [decide_eq_true q1] at hrv
    by_cases q2 : y = e.sq - 1
    by_cases k1 : 0 ≤ e.cl
    by_cases k2 : e.cl < 4
    by_cases k3 : 1 ≤ e.op
    by_cases k4 : e.op ≤ 1099511627776
    ·have hyes : EntR e := ⟨⟨d1, d2, d3, d4⟩, ⟨c2, c3⟩, c4, c5, c6, ⟨by omega, by omega⟩, by omega, (fun _ => hv), q1, by rw [hy]; exact q2, ⟨k1, k2⟩, ⟨k3, k4⟩⟩
     skip
     skip
     repeat' (first | refine runS ?_ | refine gS (fun _ => ?_) (fun _ => ?_) | refine bx rfl (fun _ => ?_) | refine al (fun _ => ?_) | refine WX.callQ rfl hch rfl ?_ | refine WX.callQ rfl hst rfl ?_ | refine lAN (t := 39) e.enc [.int .i64 e.dc, .int .i64 e.rg, .int .i64 e.sq] rfl ?_ | refine lAN (t := 41) e.enc [.int .i64 e.ct, .int .i64 e.sd, .int .i64 e.sr] rfl ?_ | refine sGW [.int .i64 0, .int .i64 0, .int .i64 0] [.int .i64 e.dc, .int .i64 e.rg, .int .i64 e.sq] rfl rfl ?_ | fail)
     rw [hd]
     skip
     repeat' (first | refine runS ?_ | refine gS (fun _ => ?_) (fun _ => ?_) | refine bx rfl (fun _ => ?_) | refine al (fun _ => ?_) | refine WX.callQ rfl hch rfl ?_ | refine WX.callQ rfl hst rfl ?_ | refine lAN (t := 39) e.enc [.int .i64 e.dc, .int .i64 e.rg, .int .i64 e.sq] rfl ?_ | refine lAN (t := 41) e.enc [.int .i64 e.ct, .int .i64 e.sd, .int .i64 e.sr] rfl ?_ | refine sGW [.int .i64 0, .int .i64 0, .int .i64 0] [.int .i64 e.dc, .int .i64 e.rg, .int .i64 e.sq] rfl rfl ?_ | fail)
     rename_i b1 b3
     refine W.hp (H' := [[(b3, .cells (List.toArray [.int .i64 e.dc, .int .i64 e.rg, .int .i64 e.sq]) 39 (0, 0))], EnBk b1 e, R]) rfl ?_
     refine W.quiet Tryz.mix (by kernel_rfl) ?_
     repeat' (first | refine runS ?_ | refine gS (fun _ => ?_) (fun _ => ?_) | refine bx rfl (fun _ => ?_) | refine al (fun _ => ?_) | refine WX.callQ rfl hrv rfl ?_ | refine lAN (t := 37) e.enc e.dp.enc rfl ?_ | refine lN e.enc _ rfl ?_ (hc := g1) | fail)
     exact D.fin1 [] _ rfl rfl ⟨by rw [decide_eq_true hyes]; simp [k4], rfl⟩
    all_goals
     have hno : ¬ EntR e := by first | exact fun h => q1 h.dp | exact fun h => q2 (hy ▸ h.own) | exact fun h => k1 h.cl.1 | exact fun h => k2 h.cl.2 | exact fun h => k3 h.op.1 | exact fun h => k4 h.op.2
     try rw [decide_eq_false q1] at hrv
     skip
     skip
     repeat' (first | refine runS ?_ | refine gS (fun _ => ?_) (fun _ => ?_) | refine bx rfl (fun _ => ?_) | refine al (fun _ => ?_) | refine WX.callQ rfl hch rfl ?_ | refine WX.callQ rfl hst rfl ?_ | refine lAN (t := 39) e.enc [.int .i64 e.dc, .int .i64 e.rg, .int .i64 e.sq] rfl ?_ | refine lAN (t := 41) e.enc [.int .i64 e.ct, .int .i64 e.sd, .int .i64 e.sr] rfl ?_ | refine sGW [.int .i64 0, .int .i64 0, .int .i64 0] [.int .i64 e.dc, .int .i64 e.rg, .int .i64 e.sq] rfl rfl ?_ | fail)
     rw [hd]
     skip
     repeat' (first | refine runS ?_ | refine gS (fun _ => ?_) (fun _ => ?_) | refine bx rfl (fun _ => ?_) | refine al (fun _ => ?_) | refine WX.callQ rfl hch rfl ?_ | refine WX.callQ rfl hst rfl ?_ | refine lAN (t := 39) e.enc [.int .i64 e.dc, .int .i64 e.rg, .int .i64 e.sq] rfl ?_ | refine lAN (t := 41) e.enc [.int .i64 e.ct, .int .i64 e.sd, .int .i64 e.sr] rfl ?_ | refine sGW [.int .i64 0, .int .i64 0, .int .i64 0] [.int .i64 e.dc, .int .i64 e.rg, .int .i64 e.sq] rfl rfl ?_ | fail)
     rename_i b1 b3
     refine W.hp (H' := [[(b3, .cells (List.toArray [.int .i64 e.dc, .int .i64 e.rg, .int .i64 e.sq]) 39 (0, 0))], EnBk b1 e, R]) rfl ?_
     refine W.quiet Tryz.mix (by kernel_rfl) ?_
     repeat' (first | refine runS ?_ | refine gS (fun _ => ?_) (fun _ => ?_) | refine bx rfl (fun _ => ?_) | refine al (fun _ => ?_) | refine WX.callQ rfl hrv rfl ?_ | refine lAN (t := 37) e.enc e.dp.enc rfl ?_ | refine lN e.enc _ rfl ?_ (hc := g1) | fail)
     exact D.fin1 [] _ rfl rfl ⟨by rw [decide_eq_false hno]; first | done | simp [k4], rfl⟩
   ·have hno : ¬ EntR e := fun h => hv (h.dead hd)
    skip
    repeat' (first | refine runS ?_ | refine gS (fun _ => ?_) (fun _ => ?_) | refine bx rfl (fun _ => ?_) | refine al (fun _ => ?_) | refine WX.callQ rfl hch rfl ?_ | refine WX.callQ rfl hst rfl ?_ | refine lAN (t := 39) e.enc [.int .i64 e.dc, .int .i64 e.rg, .int .i64 e.sq] rfl ?_ | refine lAN (t := 41) e.enc [.int .i64 e.ct, .int .i64 e.sd, .int .i64 e.sr] rfl ?_ | refine sGW [.int .i64 0, .int .i64 0, .int .i64 0] [.int .i64 e.dc, .int .i64 e.rg, .int .i64 e.sq] rfl rfl ?_ | fail)
    rw [hd]
    skip
    repeat' (first | refine runS ?_ | refine gS (fun _ => ?_) (fun _ => ?_) | refine bx rfl (fun _ => ?_) | refine al (fun _ => ?_) | refine WX.callQ rfl hch rfl ?_ | refine WX.callQ rfl hst rfl ?_ | refine lAN (t := 39) e.enc [.int .i64 e.dc, .int .i64 e.rg, .int .i64 e.sq] rfl ?_ | refine lAN (t := 41) e.enc [.int .i64 e.ct, .int .i64 e.sd, .int .i64 e.sr] rfl ?_ | refine sGW [.int .i64 0, .int .i64 0, .int .i64 0] [.int .i64 e.dc, .int .i64 e.rg, .int .i64 e.sq] rfl rfl ?_ | fail)
    exact D.fin1 [] _ rfl rfl ⟨by rw [decide_eq_false hno], rfl⟩
 all_goals
  have hno : ¬ EntR e := by first | exact fun h => c1 h.ch | exact fun h => c2 h.sq.1 | exact fun h => c3 h.sq.2 | exact fun h => c4 h.st | exact fun h => c5 h.sd | exact fun h => c6 h.sr | exact fun h => c7 (by have := h.key.1; omega) | exact fun h => c8 (by have := h.key.2; omega) | exact fun h => c9 (by have := h.val; omega)
  try rw [decide_eq_false c1] at hch
  try rw [decide_eq_false c4] at hst
  skip
  skip
  repeat' (first | refine runS ?_ | refine gS (fun _ => ?_) (fun _ => ?_) | refine bx rfl (fun _ => ?_) | refine al (fun _ => ?_) | refine WX.callQ rfl hch rfl ?_ | refine WX.callQ rfl hst rfl ?_ | refine lAN (t := 39) e.enc [.int .i64 e.dc, .int .i64 e.rg, .int .i64 e.sq] rfl ?_ | refine lAN (t := 41) e.enc [.int .i64 e.ct, .int .i64 e.sd, .int .i64 e.sr] rfl ?_ | refine sGW [.int .i64 0, .int .i64 0, .int .i64 0] [.int .i64 e.dc, .int .i64 e.rg, .int .i64 e.sq] rfl rfl ?_ | fail)
  exact D.fin1 [] _ rfl rfl ⟨by rw [decide_eq_false hno], rfl⟩
end Go.Proofs.YtejfahjgfedliaaGreat

namespace Go.Proofs.YtejfahjgfedliaaGreat
open Go Go.Sl Go.Proofs.Tryz List
def CS.cells (s : CS) (v : Value) : List Value := [.int .i64 s.dc, .int .i64 s.rg, .int .i64 s.nd] ++ ((cfO s.co).enc ++ [.int .i64 s.sn, .int .i64 s.bs, v, .int .i64 s.du, .int .i64 s.st, .int .i64 s.ak, .int .i64 s.ow, .bool s.su])
abbrev CsBk (b : Nat) (s : CS) (v : Value) : Hp := [(b, .cells (List.toArray (s.cells v)) 112 (0, 0))]
theorem isLast_ct {s : CS} (ok : ChO s.co) (b : Nat) (v : Value) : Ct prog 167 [.pointer (some ⟨b, 0, none⟩)] [CsBk b s v] (fun r H' => r = .bool (decide s.last) ∧ H' = [CsBk b s v]) := by
 have hl := last_ct ok
 refine Ct.mk' func167 rfl rfl rfl (fun g R => ?_)
 try simp only [ca]
 simp only [na]
 by_cases h0 : 0 ≤ s.nd
 ·try refine runS ?_
  refine W.quiet Tryz.mix (by kernel_rfl) ?_
  repeat' (first | refine runS ?_ | refine lAN (s.cells v) (cfO s.co).enc rfl ?_ | refine WX.callQ rfl hl rfl ?_ | fail)
  exact D.fin1 [CsBk b s v] _ rfl rfl ⟨by simp [h0], rfl⟩
 ·try refine runS ?_
  refine W.quiet Tryz.mix (by kernel_rfl) ?_
  try refine runS ?_
  exact D.fin1 [CsBk b s v] _ rfl rfl ⟨by simp [h0], rfl⟩
theorem isHead_ct {s : CS} (ok : ChO s.co) (b : Nat) (v : Value) : Ct prog 118 [.pointer (some ⟨b, 0, none⟩)] [CsBk b s v] (fun r H' => r = .bool (decide s.head) ∧ H' = [CsBk b s v]) := by
 have hl := head_ct ok
 refine Ct.mk' func118 rfl rfl rfl (fun g R => ?_)
 try simp only [ca]
 simp only [na]
 by_cases h0 : 0 ≤ s.nd
 ·try refine runS ?_
  refine W.quiet Tryz.mix (by kernel_rfl) ?_
  repeat' (first | refine runS ?_ | refine lAN (s.cells v) (cfO s.co).enc rfl ?_ | refine WX.callQ rfl hl rfl ?_ | fail)
  exact D.fin1 [CsBk b s v] _ rfl rfl ⟨by simp [h0], rfl⟩
 ·try refine runS ?_
  refine W.quiet Tryz.mix (by kernel_rfl) ?_
  try refine runS ?_
  exact D.fin1 [CsBk b s v] _ rfl rfl ⟨by simp [h0], rfl⟩
theorem settle_ct {s : CS} (ok : ChO s.co) (b : Nat) (v : Value) : Ct prog 110 [.pointer (some ⟨b, 0, none⟩)] [CsBk b s v] (fun r H' => r = .tuple #[] ∧ H' = [CsBk b s.settle v]) := by
 have hl := isLast_ct ok b v
 refine Ct.mk' func110 rfl rfl rfl (fun g R => ?_)
 try simp only [ca]
 simp only [na]
 by_cases h0 : s.last
 ·rw [decide_eq_true h0] at hl
  cases hj : (cfO s.co).jo with
  | false =>
   have e : s.settle = { s with su := true, st := s.du } := by unfold CS.settle; rw [if_pos h0, if_pos hj]
   rw [e]
   repeat' (first | refine runS ?_ | refine WX.callQ rfl hl rfl ?_ | fail)
   rw [hj]
   try refine runS ?_
   refine I.st ?_
   refine stN (s.cells v) (CS.cells { s with su := true } v) rfl rfl ?_
   try refine runS ?_
   refine I.st ?_
   refine stN (CS.cells { s with su := true } v) (CS.cells { s with su := true, st := s.du } v) rfl rfl ?_
   try refine runS ?_
   first | exact D.finE [CsBk b ({ s with su := true, st := s.du } : CS) v] _ rfl ⟨rfl, rfl⟩ | exact D.fin0 [CsBk b ({ s with su := true, st := s.du } : CS) v] _ rfl ⟨rfl, rfl⟩
  | true =>
   cases hs : s.su with
   | true =>
    have e : s.settle = { s with st := mx s.st s.bs } := by unfold CS.settle; rw [if_pos h0, if_neg (by rw [hj]; decide), if_pos hs]
    rw [e]
    repeat' (first | refine runS ?_ | refine WX.callQ rfl hl rfl ?_ | fail)
    rw [hj]
    try refine runS ?_
    rw [hs]
    try refine runS ?_
    refine W.mixN 8 (List.replicate 10 true) [CsBk b s v] Tryz.mix (by kernel_rfl) ?_
    try refine runS ?_
    refine I.st ?_
    refine stN (s.cells v) (CS.cells { s with st := mx s.st s.bs } v) rfl rfl ?_
    try refine runS ?_
    exact D.finE [CsBk b ({ s with st := mx s.st s.bs } : CS) v] _ rfl ⟨rfl, by rw [hs]⟩
   | false =>
    have e : s.settle = s := by unfold CS.settle; rw [if_pos h0, if_neg (by rw [hj]; decide), if_neg (by rw [hs]; decide)]
    rw [e]
    repeat' (first | refine runS ?_ | refine WX.callQ rfl hl rfl ?_ | fail)
    rw [hj]
    try refine runS ?_
    rw [hs]
    try refine runS ?_
    first | exact D.finE [CsBk b s v] _ rfl ⟨rfl, rfl⟩ | exact D.fin0 [CsBk b s v] _ rfl ⟨rfl, rfl⟩
 ·rw [decide_eq_false h0] at hl
  have e : s.settle = s := if_neg h0
  rw [e]
  repeat' (first | refine runS ?_ | refine WX.callQ rfl hl rfl ?_ | fail)
  first | exact D.finE [CsBk b s v] _ rfl ⟨rfl, rfl⟩ | exact D.fin0 [CsBk b s v] _ rfl ⟨rfl, rfl⟩
theorem cnew_ct (dc rg nd : Int) : Ct prog 46 [.int .i64 dc, .int .i64 rg, .int .i64 nd] [] (fun r H' => ∃ b, r = .pointer (some ⟨b, 0, none⟩) ∧ H' = [CsBk b (CS.new dc rg nd) (.slice none 0 0)]) := by
 refine Ct.mk' func46 rfl rfl rfl (fun g R => ?_)
 try simp only [ca]
 simp only [na]
 repeat' (first | refine runS ?_ | refine bx rfl (fun _ => ?_) | refine bdN ((CS.new dc rg nd).cells (.slice none 0 0)) ?_ | fail)
 rename_i b
 exact D.fin1 [CsBk b (CS.new dc rg nd) (.slice none 0 0)] _ rfl rfl ⟨b, rfl, rfl⟩
theorem ccolumn_ct (s : CS) (b : Nat) {v : Value} {hv : Hp} (hs : Rs s.lg v hv) (hl : s.lg.length ≤ 1000000) : Ct prog 122 [.pointer (some ⟨b, 0, none⟩)] [CsBk b s v, hv] (fun r H' => r = .agg (List.toArray (colF s.rg s.lg).enc) ∧ H' = [CsBk b s v, hv]) := by
 have hc := column_ct s.rg hs hl
 generalize colF s.rg s.lg = o at hc ⊢
 refine Ct.mk' func122 rfl rfl rfl (fun g R => ?_)
 try simp only [ca]
 simp only [na]
 repeat' (first | refine runS ?_ | refine al (fun _ => ?_) | fail)
 refine W.mixN 8 (List.replicate 8 true ++ [false]) [CsBk b s v] Tryz.mix (by kernel_rfl) ?_
 try refine runS ?_
 refine WX.callQ rfl hc rfl ?_
 repeat' (first | refine runS ?_ | refine sGW V3.z.enc o.enc rfl rfl ?_ | fail)
 exact D.finR1 [CsBk b s v, hv] _ rfl (.cellA rfl rfl .nil) ⟨rfl, rfl⟩
theorem cbehind_ct (s : CS) (b : Nat) {v : Value} {hv : Hp} (hs : Rs s.lg v hv) (hl : s.lg.length ≤ 1000000) (deps : V9) : Ct prog 121 [.pointer (some ⟨b, 0, none⟩), .agg (List.toArray deps.enc)] [CsBk b s v, hv] (fun r H' => r = .bool (decide (¬ s.covers deps)) ∧ H' = [CsBk b s v, hv]) := by
 have hc := ccolumn_ct s b hs hl
 have hp := part_ct deps s.rg
 have hcv := covC_ct (colF s.rg s.lg) (partV deps s.rg)
 refine Ct.mk' func121 rfl rfl rfl (fun g R => ?_)
 try simp only [ca]
 simp only [na]
 repeat' (first | refine runS ?_ | refine bx rfl (fun _ => ?_) | fail)
 refine W.quiet Tryz.mix (by kernel_rfl) ?_
 repeat' (first | refine runS ?_ | refine WX.callQ rfl hc rfl ?_ | refine WX.callQ rfl hp rfl ?_ | refine WX.callQ rfl hcv rfl ?_ | refine lAN deps.enc deps.enc rfl ?_ | fail)
 exact D.fin1 [CsBk b s v, hv] _ rfl rfl ⟨rfl, rfl⟩
def foV (b1 b2 : Nat) : Value := .func (.func 178) (List.toArray []) (List.toArray [.pointer (some ⟨b1, 0, none⟩), .pointer (some ⟨b2, 0, none⟩)])
theorem isFo_ct (b1 b2 : Nat) (cl op : Int) (e : Ent) : Ct prog 178 [.agg (Enc.enc e).toArray, .pointer (some ⟨b1, 0, none⟩), .pointer (some ⟨b2, 0, none⟩)] [NBk b1 cl, NBk b2 op] (fun r H' => r = .bool (decide (e.cl = cl ∧ e.op = op)) ∧ H' = [NBk b1 cl, NBk b2 op]) := by
 refine Ct.mk' func178 rfl rfl rfl (fun g R => ?_)
 try simp only [ca]
 simp only [na]
 by_cases h0 : e.cl = cl
 ·repeat' (first | refine runS ?_ | refine bx rfl (fun _ => ?_) | fail)
  exact D.fin1 [NBk b1 cl, NBk b2 op] _ rfl rfl ⟨by simp [h0], rfl⟩
 ·repeat' (first | refine runS ?_ | refine bx rfl (fun _ => ?_) | fail)
  exact D.fin1 [NBk b1 cl, NBk b2 op] _ rfl rfl ⟨by simp [h0], rfl⟩
theorem efind_ct {ps : List Ent} {v : Value} {h : Hp} (hs : Rs ps v h) (b1 b2 : Nat) (cl op : Int) (hl : ps.length ≤ 1000000) :
  Ct prog 177 [v, foV b1 b2] [h, NBk b1 cl, NBk b2 op] (fun r H' => r = .int .i64 (foundE ps cl op - 1) ∧ H' = [h, NBk b1 cl, NBk b2 op]) := by
 refine Ct.mk' func177 rfl rfl rfl (fun g R => ?_)
 try simp only [ca]
 simp only [na]
 try refine run ?_
 refine W.loop (α := Nat) (fun j => j ≤ ps.length ∧ ∀ (i : Nat) (p : Ent), i < j → ps[i]? = some p → ¬ (p.cl = cl ∧ p.op = op)) (fun j => [(0, v), (1, foV b1 b2), (7, .int .i64 (ps.length : Int)), (8, .int .i64 (j : Int))]) (fun _ => [h, NBk b1 cl, NBk b2 op, R]) (fun j => ps.length - j) 0 ⟨Nat.zero_le _, fun i p hi => absurd hi (Nat.not_lt_zero _)⟩ (by repeat (first | exact Fsub.nil | refine Fsub.cons rfl ?_)) (Hsub.of_picks inferInstance) ?_
 rintro j ⟨hj, hall⟩
 by_cases hlt : j < ps.length
 ·obtain ⟨p, hp⟩ : ∃ p, ps[j]? = some p := ⟨_, List.getElem?_eq_getElem hlt⟩
  try refine run ?_
  refine WX.callV rfl rfl (isFo_ct b1 b2 cl op p) rfl ?_
  rintro _ _ ⟨rfl, rfl⟩
  by_cases hpk : p.cl = cl ∧ p.op = op
  ·have hf : foundE ps cl op = (j : Int) + 1 := by
    have : ps.findIdx? (fun e => decide (e.cl = cl ∧ e.op = op)) = some j := by
     rw [List.findIdx?_eq_some_iff_getElem]
     obtain ⟨h1, h2⟩ := List.getElem?_eq_some_iff.1 hp
     refine ⟨h1, by rw [h2]; simpa using hpk, fun i hi => ?_⟩
     have := hall i _ hi (List.getElem?_eq_getElem (by omega))
     simpa using this
    unfold foundE; rw [this]
   simp only [ca, na]
   try refine run ?_
   exact D.fin1 [h, NBk b1 cl, NBk b2 op] _ rfl rfl ⟨by rw [hf]; congr 1; omega, rfl⟩
  ·simp only [ca, na]
   try refine run ?_
   refine D.rd (j + 1) ⟨by omega, fun i p' hi hp' => ?_⟩ (by omega)
   rcases Nat.lt_or_ge i j with h | h
   ·exact hall i p' h hp'
   ·obtain rfl : i = j := by omega
    rw [hp] at hp'
    cases hp'
    exact hpk
 ·have hf : foundE ps cl op = 0 := by
   have : ps.findIdx? (fun e => decide (e.cl = cl ∧ e.op = op)) = none := by
    rw [List.findIdx?_eq_none_iff]
    intro x hx
    obtain ⟨i, hi⟩ := mem_iff_getElem?.1 hx
    have hlt' := (List.getElem?_eq_some_iff.1 hi).1
    have := hall i x (by omega) hi
    simpa using this
   unfold foundE; rw [this]
  rw [hf]
  try refine run ?_
  exact D.fin1 [h, NBk b1 cl, NBk b2 op] _ rfl rfl ⟨rfl, rfl⟩
theorem foundE_range (es : List Ent) (cl op : Int) : 0 ≤ foundE es cl op ∧ foundE es cl op ≤ (es.length : Int) := by
 unfold foundE
 cases h : es.findIdx? (fun e => decide (e.cl = cl ∧ e.op = op)) with
 | none => simp only []; omega
 | some i => have := (List.findIdx?_eq_some_iff_getElem.1 h).1; simp only []; omega
theorem cfound_ct (s : CS) (b : Nat) {v : Value} {hv : Hp} (hs : Rs s.lg v hv) (hl : s.lg.length ≤ 1000000) (cl op : Int) : Ct prog 119 [.pointer (some ⟨b, 0, none⟩), .int .i64 cl, .int .i64 op] [CsBk b s v, hv] (fun r H' => r = .int .i64 (foundE s.lg cl op) ∧ H' = [CsBk b s v, hv]) := by
 have hr := foundE_range s.lg cl op
 refine Ct.mk' func119 rfl rfl rfl (fun g R => ?_)
 try simp only [ca]
 simp only [na]
 repeat' (first | refine runS ?_ | refine bx rfl (fun _ => ?_) | (refine WX.makeFunc (first := []) rfl rfl rfl ?_) | fail)
 rename_i b4 b5
 refine WX.callQ rfl (efind_ct hs b4 b5 cl op hl) rfl ?_
 try refine runS ?_
 exact D.fin1 [CsBk b s v, hv] _ rfl rfl ⟨by congr 1; omega, rfl⟩
end Go.Proofs.YtejfahjgfedliaaGreat

namespace Go.Sl
open Go List
section
variable {g : World} {P : Program} {ops : Array Oper} {Q : Exit → Act → World → Prop} {q : Bool} {n d ty : Nat} {pos : String} {af : Array Edge} {rest : List Oper} {L : Fm} {H : HH} {x y z : Operand}
theorem WX.max3 {i j k : Int} {kd : IntKind} {ts : Array TypeId} (hx : ev L x = some (.int kd i)) (hy : ev L y = some (.int kd j)) (hz : ev L z = some (.int kd k)) (hd : Nat.blt d n = true)
  (kk : WX q g P ops Q n rest ((d, .int kd (if k > (if j > i then j else i) then k else (if j > i then j else i))) :: L) H) :
  WX q g P ops Q n (⟨some d, .call ⟨.builtin .max, #[x, y, z], ts⟩, ty, pos, af, none⟩ :: rest) L H :=
 WX.val (fun a ha w _ => run_bi (args := [x, y, z]) (by simp [ha.ev hx, ha.ev hy, ha.ev hz]; rfl) (by simp [builtin, Builtin.max_, Builtin.max2])) hd kk
end
end Go.Sl
namespace Go.Proofs.YtejfahjgfedliaaGreat
open Go Go.Sl Go.Proofs.Tryz List
def CsPost (s : CS) (b : Nat) (H' : HH) : Prop := ∃ v hv, H' = [CsBk b s v, hv] ∧ IsSl 43 s.lg v hv
theorem csync_ct {s : CS} (ok : CsOk s) (b : Nat) {v : Value} {hv : Hp} (hs : IsSl 43 s.lg v hv) : Ct prog 70 [.pointer (some ⟨b, 0, none⟩)] [CsBk b s v, hv] (fun r H' => r = .tuple #[] ∧ CsPost s.sync b H') := by
 have hr := hs.rs
 have hse := settle_ct (s := { s with du := s.len }) ok.co b v
 have hlg : s.sync.lg = s.lg := (settle_same ({ s with du := s.len } : CS)).2.2.2.2.2.2.1
 refine Ct.mk' func70 rfl rfl rfl (fun g R => ?_)
 try simp only [ca]
 simp only [na]
 try refine runS ?_
 refine I.st ?_
 refine stN (s.cells v) (CS.cells { s with du := s.len } v) rfl rfl ?_
 try refine runS ?_
 refine WX.call rfl hse rfl ?_
 rintro _ _ ⟨rfl, rfl⟩
 simp only [ca, na]
 try refine runS ?_
 exact D.finE [CsBk b (CS.settle { s with du := s.len }) v, hv] _ rfl ⟨rfl, v, hv, rfl, by rw [hlg]; exact hs⟩
theorem push_lg (s : CS) (e : Ent) : (s.push e).settle.lg = s.lg ++ [e] := (settle_same (s.push e)).2.2.2.2.2.2.1
set_option maxRecDepth 10000 in
set_option maxHeartbeats 1000000 in
theorem ctake_ct {s : CS} (ok : CsOk s) (b : Nat) {v : Value} {hv : Hp} (hs : IsSl 43 s.lg v hv) (fr ep ix : Int) (e : Ent) :
  Ct prog 66 [.pointer (some ⟨b, 0, none⟩), .int .i64 fr, .int .i64 ep, .int .i64 ix, .agg (List.toArray e.enc)] [CsBk b s v, hv] (fun r H' => r = .bool (s.take fr ep ix e).1 ∧ CsPost (s.take fr ep ix e).2 b H') := by
 have hr := hs.rs
 have hah := ahead_ct ok.co s.nd
 have hen := entR_ct e
 have hll := ok.len
 have hlen : s.len = (s.lg.length : Int) := rfl
 by_cases hT : s.takes fr ep ix e
 ·have e0 : s.take fr ep ix e = (true, (s.push e).settle) := if_pos hT
  rw [e0]
  obtain ⟨t1, t2, t3, t4, t5, t6⟩ := hT
  rw [decide_eq_true t5] at hen
  generalize aheadO s.co s.nd = ah at hah t3
  have hse := fun v' => settle_ct (s := s.push e) ok.co b v'
  refine Ct.mk' func66 rfl rfl rfl (fun g R => ?_)
  try simp only [ca]
  simp only [na]
  repeat' (first | refine runS ?_ | refine bx rfl (fun _ => ?_) | fail)
  rename_i b9
  refine W.quiet Tryz.mix (by kernel_rfl) ?_
  repeat' (first | refine runS ?_ | refine lAN (t := 34) (s.cells v) (cfO s.co).enc rfl ?_ | refine lAN (t := 43) e.enc e.enc rfl ?_ | refine WX.callQ rfl hah rfl ?_ | refine WX.callQ rfl hen rfl ?_ | fail)
  refine W.mixN 8 [true, true, true, true, true, true, false, false] [CsBk b s v, EnBk b9 e] Tryz.mix (by kernel_rfl) ?_
  repeat' (first | refine runS ?_ | refine lAN (t := 43) e.enc e.enc rfl ?_ | fail)
  refine I.bs ?_
  refine WX.lit (ys := [e]) rfl rfl rfl rfl rfl rfl (by decide) rfl (fun v2 h2 hs2 => ?_)
  try refine runS ?_
  refine WX.app rfl rfl hs hs2.rs rfl rfl (by decide) (by simp only [length_cons, length_nil]; omega) rfl (fun v3 h3 hs3 => ?_)
  obtain ⟨p3, c3, e3⟩ := hs3.rs.len
  subst e3
  try refine runS ?_
  refine I.st ?_
  refine stN (s.cells v) (CS.cells (s.push e) (.slice p3 (s.lg ++ [e]).length c3)) rfl rfl ?_
  try refine runS ?_
  refine WX.call rfl (hse (.slice p3 (s.lg ++ [e]).length c3)) rfl ?_
  rintro _ _ ⟨rfl, rfl⟩
  simp only [ca, na]
  try refine runS ?_
  exact D.fin1 [CsBk b (s.push e).settle (.slice p3 (s.lg ++ [e]).length c3), h3] _ rfl rfl ⟨rfl, _, h3, rfl, by rw [push_lg]; exact hs3⟩
 ·have e0 : s.take fr ep ix e = (false, s) := if_neg hT
  rw [e0]
  refine Ct.mk' func66 rfl rfl rfl (fun g R => ?_)
  try simp only [ca]
  simp only [na]
  repeat' (first | refine runS ?_ | refine bx rfl (fun _ => ?_) | fail)
  refine W.quiet Tryz.mix (by kernel_rfl) ?_
  by_cases t1 : ep = (cfO s.co).ep
  rotate_left
  ·skip
   try refine runS ?_
   exact D.fin1 [CsBk b s v, hv] _ rfl rfl ⟨rfl, v, hv, rfl, hs⟩
  by_cases t2 : 0 ≤ fr
  rotate_left
  ·skip
   try refine runS ?_
   exact D.fin1 [CsBk b s v, hv] _ rfl rfl ⟨rfl, v, hv, rfl, hs⟩
  by_cases t3 : fr = aheadO s.co s.nd
  rotate_left
  ·skip
   repeat' (first | refine runS ?_ | refine lAN (t := 34) (s.cells v) (cfO s.co).enc rfl ?_ | refine WX.callQ rfl hah rfl ?_ | fail)
   exact D.fin1 [CsBk b s v, hv] _ rfl rfl ⟨rfl, v, hv, rfl, hs⟩
  by_cases t4 : ix = s.len + 1
  rotate_left
  ·skip
   repeat' (first | refine runS ?_ | refine lAN (t := 34) (s.cells v) (cfO s.co).enc rfl ?_ | refine WX.callQ rfl hah rfl ?_ | fail)
   exact D.fin1 [CsBk b s v, hv] _ rfl rfl ⟨rfl, v, hv, rfl, hs⟩
  by_cases t5 : EntR e
  rotate_left
  ·rw [decide_eq_false t5] at hen
   skip
   repeat' (first | refine runS ?_ | refine lAN (t := 34) (s.cells v) (cfO s.co).enc rfl ?_ | refine lAN (t := 43) e.enc e.enc rfl ?_ | refine WX.callQ rfl hah rfl ?_ | refine WX.callQ rfl hen rfl ?_ | fail)
   exact D.fin1 [CsBk b s v, hv] _ rfl rfl ⟨rfl, v, hv, rfl, hs⟩
  by_cases t6 : s.len < 256
  ·exact absurd ⟨t1, t2, t3, t4, t5, t6⟩ hT
  ·rw [decide_eq_true t5] at hen
   skip
   repeat' (first | refine runS ?_ | refine lAN (t := 34) (s.cells v) (cfO s.co).enc rfl ?_ | refine lAN (t := 43) e.enc e.enc rfl ?_ | refine WX.callQ rfl hah rfl ?_ | refine WX.callQ rfl hen rfl ?_ | fail)
   exact D.fin1 [CsBk b s v, hv] _ rfl rfl ⟨rfl, v, hv, rfl, hs⟩
theorem clen_ct (s : CS) (b : Nat) {v : Value} {hv : Hp} (hs : Rs s.lg v hv) : Ct prog 23 [.pointer (some ⟨b, 0, none⟩)] [CsBk b s v] (fun r H' => r = .int .i64 s.len ∧ H' = [CsBk b s v]) := by
 obtain ⟨p, c, rfl⟩ := hs.len
 refine Ct.mk' func23 rfl rfl rfl (fun g R => ?_)
 try simp only [ca]
 simp only [na]
 try refine runS ?_
 exact D.fin1 [CsBk b s _] _ rfl rfl ⟨rfl, rfl⟩
theorem cdur_ct (s : CS) (b : Nat) (v : Value) : Ct prog 17 [.pointer (some ⟨b, 0, none⟩)] [CsBk b s v] (fun r H' => r = .int .i64 s.du ∧ H' = [CsBk b s v]) := by
 refine Ct.mk' func17 rfl rfl rfl (fun g R => ?_)
 try simp only [ca]
 simp only [na]
 try refine runS ?_
 exact D.fin1 [CsBk b s v] _ rfl rfl ⟨rfl, rfl⟩
theorem cstab_ct (s : CS) (b : Nat) (v : Value) : Ct prog 32 [.pointer (some ⟨b, 0, none⟩)] [CsBk b s v] (fun r H' => r = .int .i64 s.st ∧ H' = [CsBk b s v]) := by
 refine Ct.mk' func32 rfl rfl rfl (fun g R => ?_)
 try simp only [ca]
 simp only [na]
 try refine runS ?_
 exact D.fin1 [CsBk b s v] _ rfl rfl ⟨rfl, rfl⟩
theorem csince_ct (s : CS) (b : Nat) (v : Value) : Ct prog 19 [.pointer (some ⟨b, 0, none⟩)] [CsBk b s v] (fun r H' => r = .int .i64 s.sn ∧ H' = [CsBk b s v]) := by
 refine Ct.mk' func19 rfl rfl rfl (fun g R => ?_)
 try simp only [ca]
 simp only [na]
 try refine runS ?_
 exact D.fin1 [CsBk b s v] _ rfl rfl ⟨rfl, rfl⟩
theorem cbase_ct (s : CS) (b : Nat) (v : Value) : Ct prog 20 [.pointer (some ⟨b, 0, none⟩)] [CsBk b s v] (fun r H' => r = .int .i64 s.bs ∧ H' = [CsBk b s v]) := by
 refine Ct.mk' func20 rfl rfl rfl (fun g R => ?_)
 try simp only [ca]
 simp only [na]
 try refine runS ?_
 exact D.fin1 [CsBk b s v] _ rfl rfl ⟨rfl, rfl⟩
theorem cepoch_ct (s : CS) (b : Nat) (v : Value) : Ct prog 24 [.pointer (some ⟨b, 0, none⟩)] [CsBk b s v] (fun r H' => r = .int .i64 (cfO s.co).ep ∧ H' = [CsBk b s v]) := by
 refine Ct.mk' func24 rfl rfl rfl (fun g R => ?_)
 try simp only [ca]
 simp only [na]
 try refine runS ?_
 exact D.fin1 [CsBk b s v] _ rfl rfl ⟨rfl, rfl⟩
theorem cconfig_ct (s : CS) (b : Nat) (v : Value) : Ct prog 18 [.pointer (some ⟨b, 0, none⟩)] [CsBk b s v] (fun r H' => r = .agg (List.toArray (cfO s.co).enc) ∧ H' = [CsBk b s v]) := by
 refine Ct.mk' func18 rfl rfl rfl (fun g R => ?_)
 try simp only [ca]
 simp only [na]
 repeat' (first | refine runS ?_ | refine al (fun _ => ?_) | refine lAN (s.cells v) (cfO s.co).enc rfl ?_ | refine sGW Cfg.z.enc (cfO s.co).enc rfl rfl ?_ | fail)
 exact D.finR1 [CsBk b s v] _ rfl (.cellA rfl rfl .nil) ⟨rfl, rfl⟩
theorem cloneE_ct {xs : List Ent} {v : Value} {h : Hp} (hs : Rs xs v h) (hl : xs.length ≤ 1000000) :
  Ct prog 63 [v] [h] (fun r H' => ∃ h', IsSl 43 xs r h' ∧ H' = [h', h]) := by
 obtain ⟨p, c, rfl⟩ := hs.len
 refine Ct.mk' func63 rfl rfl rfl (fun g R => ?_)
 try simp only [ca]
 simp only [na]
 cases p with
 | none =>
  have hx : xs = [] := by
   obtain ⟨a, c', e, _, f⟩ := hs
   cases e
   cases xs with
   | nil => rfl
   | cons y r => obtain ⟨b, off, e, _⟩ := f 0 y rfl; cases e
  subst hx
  repeat' (first | refine run ?_ | refine WX.eqlN rfl rfl rfl ?_ | fail)
  exact D.fin1 [[], h] _ rfl rfl ⟨_, IsSl.nil _, rfl⟩
 | some a =>
  repeat' (first | refine run ?_ | refine WX.eqlN rfl rfl rfl ?_ | fail)
  refine I.bs ?_
  refine WX.lit (ys := ([] : List Ent)) (vs := []) rfl rfl rfl rfl rfl rfl (by decide) rfl (fun v1 h1 hs1 => ?_)
  try refine run ?_
  refine WX.app rfl rfl hs1 hs rfl rfl (by decide) (by simp only [length_nil]; omega) rfl (fun v2 h2 hs2 => ?_)
  rw [nil_append] at hs2
  try refine run ?_
  exact D.fin1 [h2, h] _ rfl rfl ⟨_, hs2, rfl⟩
theorem clog_ct (s : CS) (b : Nat) {v : Value} {hv : Hp} (hs : Rs s.lg v hv) (hl : s.lg.length ≤ 1000000) : Ct prog 16 [.pointer (some ⟨b, 0, none⟩)] [CsBk b s v, hv] (fun r H' => ∃ h', IsSl 43 s.lg r h' ∧ H' = [h', CsBk b s v, hv]) := by
 refine Ct.mk' func16 rfl rfl rfl (fun g R => ?_)
 try simp only [ca]
 simp only [na]
 try refine runS ?_
 refine WX.call rfl (cloneE_ct hs hl) rfl ?_
 rintro _ _ ⟨h1, hs1, rfl⟩
 simp only [ca, na]
 try refine runS ?_
 exact D.fin1 [h1, CsBk b s v, hv] _ rfl rfl ⟨h1, hs1, rfl⟩
theorem cat_ct (s : CS) (b : Nat) {v : Value} {hv : Hp} (hs : Rs s.lg v hv) (hl : s.lg.length ≤ 1000000) (i : Int) (hi : -4611686018427387904 ≤ i ∧ i ≤ 4611686018427387904) : Ct prog 87 [.pointer (some ⟨b, 0, none⟩), .int .i64 i] [CsBk b s v, hv]
   (fun r H' => r = .tuple #[.agg (List.toArray (if 1 ≤ i ∧ i ≤ s.len then s.lg.getD (i.toNat - 1) Ent.z else Ent.z).enc), .bool (decide (1 ≤ i ∧ i ≤ s.len))] ∧ H' = [CsBk b s v, hv]) := by
 have hlen : s.len = (s.lg.length : Int) := rfl
 refine Ct.mk' func87 rfl rfl rfl (fun g R => ?_)
 try simp only [ca]
 simp only [na]
 by_cases h1 : 1 ≤ i
 ·by_cases h2 : i ≤ s.len
  ·obtain ⟨x, hx⟩ : ∃ x, s.lg[(i - 1).toNat]? = some x := ⟨_, List.getElem?_eq_getElem (by omega)⟩
   have e1 : (if 1 ≤ i ∧ i ≤ s.len then s.lg.getD (i.toNat - 1) Ent.z else Ent.z) = x := by
    rw [if_pos ⟨h1, h2⟩, getD_eq_getElem?_getD, show i.toNat - 1 = (i - 1).toNat by omega, hx]; rfl
   rw [e1, decide_eq_true (⟨h1, h2⟩ : 1 ≤ i ∧ i ≤ s.len)]
   repeat' (first | refine runS ?_ | refine al (fun _ => ?_) | refine WX.loadEW rfl hs hx rfl rfl ?_ | refine sGW Ent.z.enc x.enc rfl rfl ?_ | fail)
   exact D.finR [CsBk b s v, hv] _ rfl (.cellA rfl rfl (.tmp rfl .nil)) rfl ⟨rfl, rfl⟩
  ·rw [if_neg (fun h => h2 h.2), decide_eq_false (fun h => h2 h.2)]
   repeat' (first | refine runS ?_ | refine al (fun _ => ?_) | refine bdN (t := 43) Ent.z.enc ?_ | refine sGW Ent.z.enc Ent.z.enc rfl rfl ?_ | fail)
   exact D.finR [CsBk b s v, hv] _ rfl (.cellA rfl rfl (.tmp rfl .nil)) rfl ⟨rfl, rfl⟩
 ·rw [if_neg (fun h => h1 h.1), decide_eq_false (fun h => h1 h.1)]
  repeat' (first | refine runS ?_ | refine al (fun _ => ?_) | refine bdN (t := 43) Ent.z.enc ?_ | refine sGW Ent.z.enc Ent.z.enc rfl rfl ?_ | fail)
  exact D.finR [CsBk b s v, hv] _ rfl (.cellA rfl rfl (.tmp rfl .nil)) rfl ⟨rfl, rfl⟩
end Go.Proofs.YtejfahjgfedliaaGreat

namespace Go.Proofs.YtejfahjgfedliaaGreat
open Go Go.Sl Go.Proofs.Tryz
set_option maxRecDepth 10000 in
set_option maxHeartbeats 1000000 in
theorem cheard_ct {s : CS} (ok : CsOk s) (b : Nat) (v : Value) (fr ep du st : Int) :
  Ct prog 57 [.pointer (some ⟨b, 0, none⟩), .int .i64 fr, .int .i64 ep, .int .i64 du, .int .i64 st] [CsBk b s v] (fun r H' => r = .bool (s.heard fr ep du st).1 ∧ H' = [CsBk b (s.heard fr ep du st).2 v]) := by
 have hbh := behind_ct ok.co s.nd
 have hfu := fullO_ct ok.co fr
 by_cases hT : ep = (cfO s.co).ep ∧ 0 ≤ fr ∧ fr = behindO s.co s.nd
 ·have e0 : s.heard fr ep du st = (true, (s.heard0 fr (mn du s.du) (mn st s.du)).settle) := if_pos hT
  rw [e0]
  obtain ⟨t1, t2, t3⟩ := hT
  generalize behindO s.co s.nd = bh at hbh t3
  refine Ct.mk' func57 rfl rfl rfl (fun g R => ?_)
  try simp only [ca]
  simp only [na]
  try refine runS ?_
  cases hf : fullO s.co fr with
  | true =>
   rw [hf] at hfu
   have e1 : s.heard0 fr (mn du s.du) (mn st s.du) = { s with ak := mx s.ak (mn du s.du), st := mx s.st (mn st s.du) } := if_pos hf
   rw [e1]
   skip
   refine W.quiet Tryz.mix (by kernel_rfl) ?_
   skip
   repeat' (first | refine runS ?_ | refine lAN (t := 34) (s.cells v) (cfO s.co).enc rfl ?_ | refine WX.callQ rfl hbh rfl ?_ | fail)
   refine W.quiet Tryz.mix (by kernel_rfl) ?_
   try refine runS ?_
   refine I.st ?_
   refine stN (s.cells v) (CS.cells { s with ak := mx s.ak (mn du s.du) } v) rfl rfl ?_
   repeat' (first | refine runS ?_ | refine lAN (t := 34) (CS.cells { s with ak := mx s.ak (mn du s.du) } v) (cfO s.co).enc rfl ?_ | refine WX.callQ rfl hfu rfl ?_ | fail)
   refine I.st ?_
   refine stN (CS.cells { s with ak := mx s.ak (mn du s.du) } v) (CS.cells { s with ak := mx s.ak (mn du s.du), st := mx s.st (mn st s.du) } v) rfl rfl ?_
   try refine runS ?_
   refine WX.call rfl (settle_ct (s := { s with ak := mx s.ak (mn du s.du), st := mx s.st (mn st s.du) }) ok.co b v) rfl ?_
   rintro _ _ ⟨rfl, rfl⟩
   simp only [ca, na]
   try refine runS ?_
   exact D.fin1 [CsBk b (CS.settle ({ s with ak := mx s.ak (mn du s.du), st := mx s.st (mn st s.du) })) v] _ rfl rfl ⟨rfl, rfl⟩
  | false =>
   rw [hf] at hfu
   cases hsu : s.su with
   | true =>
    have e1 : s.heard0 fr (mn du s.du) (mn st s.du) = { s with ak := mx s.ak (mn du s.du), su := true, st := mx (mx s.st s.bs) (mn du s.du) } := by unfold CS.heard0; rw [if_neg (by rw [hf]; decide), if_pos (.inl hsu)]
    rw [e1]
    clear e0 e1
    skip
    refine W.quiet Tryz.mix (by kernel_rfl) ?_
    skip
    repeat' (first | refine runS ?_ | refine lAN (t := 34) (s.cells v) (cfO s.co).enc rfl ?_ | refine WX.callQ rfl hbh rfl ?_ | fail)
    refine W.quiet Tryz.mix (by kernel_rfl) ?_
    try refine runS ?_
    refine I.st ?_
    refine stN (s.cells v) (CS.cells { s with ak := mx s.ak (mn du s.du) } v) rfl rfl ?_
    repeat' (first | refine runS ?_ | refine lAN (t := 34) (CS.cells { s with ak := mx s.ak (mn du s.du) } v) (cfO s.co).enc rfl ?_ | refine WX.callQ rfl hfu rfl ?_ | fail)
    refine WX.as 77 (.bool true) rfl (by rw [hsu]) ?_
    skip
    try refine runS ?_
    refine I.st ?_
    refine stN (CS.cells { s with ak := mx s.ak (mn du s.du) } v) (CS.cells { s with ak := mx s.ak (mn du s.du), su := true } v) rfl rfl ?_
    try refine runS ?_
    refine W.mixN 8 (List.replicate 11 true) [CsBk b { s with ak := mx s.ak (mn du s.du), su := true } v] Tryz.mix (by kernel_rfl) ?_
    repeat' (first | refine runS ?_ | refine WX.max3 rfl rfl rfl rfl ?_ | fail)
    refine I.st ?_
    refine stN (CS.cells { s with ak := mx s.ak (mn du s.du), su := true } v) (CS.cells { s with ak := mx s.ak (mn du s.du), su := true, st := mx (mx s.st s.bs) (mn du s.du) } v) rfl rfl ?_
    try refine runS ?_
    refine WX.call rfl (settle_ct (s := { s with ak := mx s.ak (mn du s.du), su := true, st := mx (mx s.st s.bs) (mn du s.du) }) ok.co b v) rfl ?_
    rintro _ _ ⟨rfl, rfl⟩
    simp only [ca, na]
    try refine runS ?_
    exact D.fin1 [CsBk b (CS.settle ({ s with ak := mx s.ak (mn du s.du), su := true, st := mx (mx s.st s.bs) (mn du s.du) })) v] _ rfl rfl ⟨rfl, rfl⟩
   | false =>
    by_cases hw : (if s.du < du then s.du else du) ≥ s.ow
    ·have e1 : s.heard0 fr (mn du s.du) (mn st s.du) = { s with ak := mx s.ak (mn du s.du), su := true, st := mx (mx s.st s.bs) (mn du s.du) } := by unfold CS.heard0; rw [if_neg (by rw [hf]; decide), if_pos (.inr hw)]
     rw [e1]
     clear e0 e1
     skip
     refine W.quiet Tryz.mix (by kernel_rfl) ?_
     skip
     repeat' (first | refine runS ?_ | refine lAN (t := 34) (s.cells v) (cfO s.co).enc rfl ?_ | refine WX.callQ rfl hbh rfl ?_ | fail)
     refine W.quiet Tryz.mix (by kernel_rfl) ?_
     try refine runS ?_
     refine I.st ?_
     refine stN (s.cells v) (CS.cells { s with ak := mx s.ak (mn du s.du) } v) rfl rfl ?_
     repeat' (first | refine runS ?_ | refine lAN (t := 34) (CS.cells { s with ak := mx s.ak (mn du s.du) } v) (cfO s.co).enc rfl ?_ | refine WX.callQ rfl hfu rfl ?_ | fail)
     refine WX.as 77 (.bool false) rfl (by rw [hsu]) ?_
     skip
     try refine runS ?_
     refine I.st ?_
     refine stN (CS.cells { s with ak := mx s.ak (mn du s.du) } v) (CS.cells { s with ak := mx s.ak (mn du s.du), su := true } v) rfl rfl ?_
     try refine runS ?_
     refine W.mixN 8 (List.replicate 11 true) [CsBk b { s with ak := mx s.ak (mn du s.du), su := true } v] Tryz.mix (by kernel_rfl) ?_
     repeat' (first | refine runS ?_ | refine WX.max3 rfl rfl rfl rfl ?_ | fail)
     refine I.st ?_
     refine stN (CS.cells { s with ak := mx s.ak (mn du s.du), su := true } v) (CS.cells { s with ak := mx s.ak (mn du s.du), su := true, st := mx (mx s.st s.bs) (mn du s.du) } v) rfl rfl ?_
     try refine runS ?_
     refine WX.call rfl (settle_ct (s := { s with ak := mx s.ak (mn du s.du), su := true, st := mx (mx s.st s.bs) (mn du s.du) }) ok.co b v) rfl ?_
     rintro _ _ ⟨rfl, rfl⟩
     simp only [ca, na]
     try refine runS ?_
     exact D.fin1 [CsBk b (CS.settle ({ s with ak := mx s.ak (mn du s.du), su := true, st := mx (mx s.st s.bs) (mn du s.du) })) v] _ rfl rfl ⟨rfl, rfl⟩
    ·have e1 : s.heard0 fr (mn du s.du) (mn st s.du) = { s with ak := mx s.ak (mn du s.du) } := by
      unfold CS.heard0; rw [if_neg (by rw [hf]; decide), if_neg (fun h => h.elim (fun h => by rw [hsu] at h; cases h) hw)]
     rw [e1]
     clear e0 e1
     skip
     refine W.quiet Tryz.mix (by kernel_rfl) ?_
     skip
     repeat' (first | refine runS ?_ | refine lAN (t := 34) (s.cells v) (cfO s.co).enc rfl ?_ | refine WX.callQ rfl hbh rfl ?_ | fail)
     refine W.quiet Tryz.mix (by kernel_rfl) ?_
     try refine runS ?_
     refine I.st ?_
     refine stN (s.cells v) (CS.cells { s with ak := mx s.ak (mn du s.du) } v) rfl rfl ?_
     repeat' (first | refine runS ?_ | refine lAN (t := 34) (CS.cells { s with ak := mx s.ak (mn du s.du) } v) (cfO s.co).enc rfl ?_ | refine WX.callQ rfl hfu rfl ?_ | fail)
     refine WX.as 77 (.bool false) rfl (by rw [hsu]) ?_
     try refine runS ?_
     refine WX.call rfl (settle_ct (s := { s with ak := mx s.ak (mn du s.du) }) ok.co b v) rfl ?_
     rintro _ _ ⟨rfl, rfl⟩
     simp only [ca, na]
     try refine runS ?_
     exact D.fin1 [CsBk b (CS.settle ({ s with ak := mx s.ak (mn du s.du) })) v] _ rfl rfl ⟨rfl, rfl⟩
 ·have e0 : s.heard fr ep du st = (false, s) := if_neg hT
  rw [e0]
  clear e0
  refine Ct.mk' func57 rfl rfl rfl (fun g R => ?_)
  try simp only [ca]
  simp only [na]
  try refine runS ?_
  refine W.quiet Tryz.mix (by kernel_rfl) ?_
  by_cases t1 : ep = (cfO s.co).ep
  rotate_left
  ·skip
   skip
   try refine runS ?_
   exact D.fin1 [CsBk b s v] _ rfl rfl ⟨rfl, rfl⟩
  by_cases t2 : 0 ≤ fr
  rotate_left
  ·skip
   skip
   try refine runS ?_
   exact D.fin1 [CsBk b s v] _ rfl rfl ⟨rfl, rfl⟩
  by_cases t3 : fr = behindO s.co s.nd
  ·exact absurd ⟨t1, t2, t3⟩ hT
  ·skip
   skip
   repeat' (first | refine runS ?_ | refine lAN (t := 34) (s.cells v) (cfO s.co).enc rfl ?_ | refine WX.callQ rfl hbh rfl ?_ | fail)
   exact D.fin1 [CsBk b s v] _ rfl rfl ⟨rfl, rfl⟩
theorem rightC_ch {x : Cfg} (h : RightC x) : ∃ c, x = c.cfg ∧ ChOk c ∧ chOf x = c := ⟨chOf x, h.2.1.symm, h.2.2, rfl⟩
set_option maxRecDepth 10000 in
set_option maxHeartbeats 1000000 in
theorem crestore_ct (dc rg nd : Int) (x : Cfg) (sn bs : Int) {es : List Ent} {u : Value} {h : Hp} (hs : Rs es u h) (hl : es.length ≤ 1000000) :
  Ct prog 61 [.int .i64 dc, .int .i64 rg, .int .i64 nd, .agg (List.toArray x.enc), .int .i64 sn, .int .i64 bs, u] [h]
   (fun r H' => ∃ b v hv, r = .pointer (some ⟨b, 0, none⟩) ∧ H' = [CsBk b (CS.restore dc rg nd x sn bs es) v, hv, h] ∧ IsSl 43 (CS.restore dc rg nd x sn bs es).lg v hv) := by
 have hlg : (CS.restore dc rg nd x sn bs es).lg = es := (settle_same (CS.restore0 dc rg nd x sn bs es)).2.2.2.2.2.2.1
 have hrt := rightG_ct x
 by_cases hR : RightC x
 ·rw [decide_eq_true hR] at hrt
  obtain ⟨c, hcx, okc, hch⟩ := rightC_ch hR
  have hr0 : CS.restore dc rg nd x sn bs es = CS.settle ⟨dc, rg, nd, some c, sn, mx 0 (mn bs (es.length : Int)), es, (es.length : Int), 0, 0, (es.length : Int), false⟩ := by
   unfold CS.restore CS.restore0; rw [if_pos hR, hch]
  have hO : ChO (some c) := ChO.some okc
  rw [hr0] at hlg ⊢
  subst hcx
  clear hch hr0 hR
  refine Ct.mk' func61 rfl rfl rfl (fun g R => ?_)
  try simp only [ca]
  simp only [na]
  repeat' (first | refine runS ?_ | refine bx rfl (fun _ => ?_) | refine lAN c.cfg.enc c.cfg.enc rfl ?_ | refine WX.callQ rfl hrt rfl ?_ | fail)
  rename_i b10
  refine WX.hp (H' := [CfBk b10 (cfO (some c)), h, R]) rfl ?_
  refine WX.call rfl (cnew_ct dc rg nd) rfl ?_
  rintro _ _ ⟨b, rfl, rfl⟩
  simp only [ca, na]
  try refine runS ?_
  refine W.mixN 8 [true, true, true, true, true, true, false, true, true, false, true, true, false] [CfBk b10 (cfO (some c))] Tryz.mix (by kernel_rfl) ?_
  repeat' (first | refine runS ?_ | refine lAN (cfO (some c)).enc (cfO (some c)).enc rfl ?_ | fail)
  refine WX.call rfl (cloneE_ct hs (by omega)) rfl ?_
  rintro _ _ ⟨h1, hs1, rfl⟩
  obtain ⟨p1, c1, e1⟩ := hs1.rs.len
  subst e1
  simp only [ca, na]
  try refine runS ?_
  refine I.st ?_
  refine sGN ((CS.new dc rg nd).cells (.slice none 0 0)) (cfO (some c)).enc (CS.cells ⟨dc, rg, nd, (some c), 0, 0, [], 0, 0, 0, 0, false⟩ (.slice none 0 0)) rfl rfl ?_
  try refine runS ?_
  refine I.st ?_
  refine stN (CS.cells ⟨dc, rg, nd, (some c), 0, 0, [], 0, 0, 0, 0, false⟩ (.slice none 0 0)) (CS.cells ⟨dc, rg, nd, (some c), sn, 0, [], 0, 0, 0, 0, false⟩ (.slice none 0 0)) rfl rfl ?_
  try refine runS ?_
  refine I.st ?_
  refine stN (CS.cells ⟨dc, rg, nd, (some c), sn, 0, [], 0, 0, 0, 0, false⟩ (.slice none 0 0)) (CS.cells ⟨dc, rg, nd, (some c), sn, 0, es, 0, 0, 0, 0, false⟩ (.slice p1 es.length c1)) rfl rfl ?_
  try refine runS ?_
  refine I.st ?_
  refine stN (CS.cells ⟨dc, rg, nd, (some c), sn, 0, es, 0, 0, 0, 0, false⟩ (.slice p1 es.length c1)) (CS.cells ⟨dc, rg, nd, (some c), sn, 0, es, (es.length : Int), 0, 0, 0, false⟩ (.slice p1 es.length c1)) rfl rfl ?_
  try refine runS ?_
  refine I.st ?_
  refine stN (CS.cells ⟨dc, rg, nd, (some c), sn, 0, es, (es.length : Int), 0, 0, 0, false⟩ (.slice p1 es.length c1)) (CS.cells ⟨dc, rg, nd, (some c), sn, 0, es, (es.length : Int), 0, 0, (es.length : Int), false⟩ (.slice p1 es.length c1)) rfl rfl ?_
  try refine runS ?_
  refine I.st ?_
  refine stN (CS.cells ⟨dc, rg, nd, (some c), sn, 0, es, (es.length : Int), 0, 0, (es.length : Int), false⟩ (.slice p1 es.length c1)) (CS.cells ⟨dc, rg, nd, (some c), sn, mx 0 (mn bs (es.length : Int)), es, (es.length : Int), 0, 0, (es.length : Int), false⟩ (.slice p1 es.length c1)) rfl rfl ?_
  try refine runS ?_
  refine WX.call rfl (settle_ct (s := ⟨dc, rg, nd, (some c), sn, mx 0 (mn bs (es.length : Int)), es, (es.length : Int), 0, 0, (es.length : Int), false⟩) hO b (.slice p1 es.length c1)) rfl ?_
  rintro _ _ ⟨rfl, rfl⟩
  simp only [ca, na]
  try refine runS ?_
  refine D.fin1 [CsBk b (CS.settle ⟨dc, rg, nd, (some c), sn, mx 0 (mn bs (es.length : Int)), es, (es.length : Int), 0, 0, (es.length : Int), false⟩) (.slice p1 es.length c1), h1, h] _ rfl rfl ⟨b, .slice p1 es.length c1, h1, rfl, ?_, ?_⟩
  ·rfl
  ·rw [hlg]; exact hs1
 ·rw [decide_eq_false hR] at hrt
  have hr0 : CS.restore dc rg nd x sn bs es = CS.settle ⟨dc, rg, nd, none, sn, mx 0 (mn bs (es.length : Int)), es, (es.length : Int), 0, 0, (es.length : Int), false⟩ := by
   unfold CS.restore CS.restore0; rw [if_neg hR]
  have hO : ChO none := ChO.none
  rw [hr0] at hlg ⊢
  clear hr0
  refine Ct.mk' func61 rfl rfl rfl (fun g R => ?_)
  try simp only [ca]
  simp only [na]
  repeat' (first | refine runS ?_ | refine bx rfl (fun _ => ?_) | refine lAN x.enc x.enc rfl ?_ | refine WX.callQ rfl hrt rfl ?_ | refine bdN (t := 34) Cfg.z.enc ?_ | refine sGW x.enc (cfO none).enc rfl rfl ?_ | fail)
  rename_i b10
  refine WX.hp (H' := [CfBk b10 (cfO none), h, R]) rfl ?_
  refine WX.call rfl (cnew_ct dc rg nd) rfl ?_
  rintro _ _ ⟨b, rfl, rfl⟩
  simp only [ca, na]
  try refine runS ?_
  refine W.mixN 8 [true, true, true, true, true, true, false, true, true, false, true, true, false] [CfBk b10 (cfO none)] Tryz.mix (by kernel_rfl) ?_
  repeat' (first | refine runS ?_ | refine lAN (cfO none).enc (cfO none).enc rfl ?_ | fail)
  refine WX.call rfl (cloneE_ct hs (by omega)) rfl ?_
  rintro _ _ ⟨h1, hs1, rfl⟩
  obtain ⟨p1, c1, e1⟩ := hs1.rs.len
  subst e1
  simp only [ca, na]
  try refine runS ?_
  refine I.st ?_
  refine sGN ((CS.new dc rg nd).cells (.slice none 0 0)) (cfO none).enc (CS.cells ⟨dc, rg, nd, none, 0, 0, [], 0, 0, 0, 0, false⟩ (.slice none 0 0)) rfl rfl ?_
  try refine runS ?_
  refine I.st ?_
  refine stN (CS.cells ⟨dc, rg, nd, none, 0, 0, [], 0, 0, 0, 0, false⟩ (.slice none 0 0)) (CS.cells ⟨dc, rg, nd, none, sn, 0, [], 0, 0, 0, 0, false⟩ (.slice none 0 0)) rfl rfl ?_
  try refine runS ?_
  refine I.st ?_
  refine stN (CS.cells ⟨dc, rg, nd, none, sn, 0, [], 0, 0, 0, 0, false⟩ (.slice none 0 0)) (CS.cells ⟨dc, rg, nd, none, sn, 0, es, 0, 0, 0, 0, false⟩ (.slice p1 es.length c1)) rfl rfl ?_
  try refine runS ?_
  refine I.st ?_
  refine stN (CS.cells ⟨dc, rg, nd, none, sn, 0, es, 0, 0, 0, 0, false⟩ (.slice p1 es.length c1)) (CS.cells ⟨dc, rg, nd, none, sn, 0, es, (es.length : Int), 0, 0, 0, false⟩ (.slice p1 es.length c1)) rfl rfl ?_
  try refine runS ?_
  refine I.st ?_
  refine stN (CS.cells ⟨dc, rg, nd, none, sn, 0, es, (es.length : Int), 0, 0, 0, false⟩ (.slice p1 es.length c1)) (CS.cells ⟨dc, rg, nd, none, sn, 0, es, (es.length : Int), 0, 0, (es.length : Int), false⟩ (.slice p1 es.length c1)) rfl rfl ?_
  try refine runS ?_
  refine I.st ?_
  refine stN (CS.cells ⟨dc, rg, nd, none, sn, 0, es, (es.length : Int), 0, 0, (es.length : Int), false⟩ (.slice p1 es.length c1)) (CS.cells ⟨dc, rg, nd, none, sn, mx 0 (mn bs (es.length : Int)), es, (es.length : Int), 0, 0, (es.length : Int), false⟩ (.slice p1 es.length c1)) rfl rfl ?_
  try refine runS ?_
  refine WX.call rfl (settle_ct (s := ⟨dc, rg, nd, none, sn, mx 0 (mn bs (es.length : Int)), es, (es.length : Int), 0, 0, (es.length : Int), false⟩) hO b (.slice p1 es.length c1)) rfl ?_
  rintro _ _ ⟨rfl, rfl⟩
  simp only [ca, na]
  try refine runS ?_
  refine D.fin1 [CsBk b (CS.settle ⟨dc, rg, nd, none, sn, mx 0 (mn bs (es.length : Int)), es, (es.length : Int), 0, 0, (es.length : Int), false⟩) (.slice p1 es.length c1), h1, h] _ rfl rfl ⟨b, .slice p1 es.length c1, h1, rfl, ?_, ?_⟩
  ·rfl
  ·rw [hlg]; exact hs1
end Go.Proofs.YtejfahjgfedliaaGreat

namespace Go.Proofs.YtejfahjgfedliaaGreat
open Go Go.Sl Go.Proofs.Tryz List
set_option maxRecDepth 10000 in
set_option maxHeartbeats 1000000 in
theorem center_ct {s : CS} (ok : CsOk s) (b : Nat) {v : Value} {hv : Hp} (hs : IsSl 43 s.lg v hv) (x : Cfg) :
  Ct prog 81 [.pointer (some ⟨b, 0, none⟩), .agg (List.toArray x.enc)] [CsBk b s v, hv] (fun r H' => r = .tuple #[.bool (s.enter x).1.1, .int .i64 (s.enter x).1.2] ∧ CsPost (s.enter x).2 b H') := by
 have hr := hs.rs
 have hrt := rightG_ct x
 by_cases hR : RightC x
 rotate_left
 ·rw [decide_eq_false hR] at hrt
  have e0 : s.enter x = ((false, 1), s) := if_pos hR
  rw [e0]
  refine Ct.mk' func81 rfl rfl rfl (fun g R => ?_)
  try simp only [ca]
  simp only [na]
  repeat' (first | refine runS ?_ | refine bx rfl (fun _ => ?_) | refine lAN x.enc x.enc rfl ?_ | refine WX.callQ rfl hrt rfl ?_ | fail)
  exact D.fin2 [CsBk b s v, hv] _ rfl rfl rfl ⟨rfl, v, hv, rfl, hs⟩
 rw [decide_eq_true hR] at hrt
 by_cases hep : x.ep ≤ (cfO s.co).ep
 ·have e0 : s.enter x = ((false, 80), s) := by unfold CS.enter; rw [if_neg (fun h => h hR), if_pos hep]
  rw [e0]
  refine Ct.mk' func81 rfl rfl rfl (fun g R => ?_)
  try simp only [ca]
  simp only [na]
  repeat' (first | refine runS ?_ | refine bx rfl (fun _ => ?_) | refine lAN x.enc x.enc rfl ?_ | refine WX.callQ rfl hrt rfl ?_ | fail)
  refine W.quiet Tryz.mix (by kernel_rfl) ?_
  try refine runS ?_
  exact D.fin2 [CsBk b s v, hv] _ rfl rfl rfl ⟨rfl, v, hv, rfl, hs⟩
 have e0 : s.enter x = ((s.resets x, 0), (s.enter0 x).settle) := by unfold CS.enter; rw [if_neg (fun h => h hR), if_neg hep]
 rw [e0]
 obtain ⟨c, hcx, okc, hch⟩ := rightC_ch hR
 have hsi := sinceO_ct (ChO.some okc) s.nd
 subst hcx
 by_cases h1 : sinceO (some c) s.nd ≠ 0 ∧ sinceO (some c) s.nd ≠ s.sn
 ·have e1 : s.enter0 c.cfg = ⟨s.dc, s.rg, s.nd, some c, sinceO (some c) s.nd, 0, [], 0, 0, 0, 0, true⟩ := by unfold CS.enter0; rw [hch, if_pos h1]
  have e2 : s.resets c.cfg = true := by unfold CS.resets; rw [hch]; exact decide_eq_true h1
  rw [e1, e2]
  obtain ⟨k1, k2⟩ := h1
  clear e0 e1 e2 hch
  generalize sinceO (some c) s.nd = z at hsi k1 k2 ⊢
  refine Ct.mk' func81 rfl rfl rfl (fun g R => ?_)
  try simp only [ca]
  simp only [na]
  repeat' (first | refine runS ?_ | refine bx rfl (fun _ => ?_) | refine lAN c.cfg.enc c.cfg.enc rfl ?_ | refine WX.callQ rfl hrt rfl ?_ | fail)
  rename_i b3
  refine W.quiet Tryz.mix (by kernel_rfl) ?_
  try refine runS ?_
  refine W.quiet Tryz.mix (by kernel_rfl) ?_
  repeat' (first | refine runS ?_ | refine lAN c.cfg.enc c.cfg.enc rfl ?_ | refine WX.callQ rfl hsi rfl ?_ | fail)
  refine I.st ?_
  refine stN (CS.cells s v) (CS.cells ⟨s.dc, s.rg, s.nd, s.co, s.sn, s.bs, [], s.du, s.st, s.ak, s.ow, s.su⟩ (.slice none 0 0)) rfl rfl ?_
  try refine runS ?_
  refine I.st ?_
  refine stN (CS.cells ⟨s.dc, s.rg, s.nd, s.co, s.sn, s.bs, [], s.du, s.st, s.ak, s.ow, s.su⟩ (.slice none 0 0)) (CS.cells ⟨s.dc, s.rg, s.nd, s.co, s.sn, s.bs, [], s.du, 0, s.ak, s.ow, s.su⟩ (.slice none 0 0)) rfl rfl ?_
  try refine runS ?_
  refine I.st ?_
  refine stN (CS.cells ⟨s.dc, s.rg, s.nd, s.co, s.sn, s.bs, [], s.du, 0, s.ak, s.ow, s.su⟩ (.slice none 0 0)) (CS.cells ⟨s.dc, s.rg, s.nd, s.co, z, s.bs, [], s.du, 0, s.ak, s.ow, s.su⟩ (.slice none 0 0)) rfl rfl ?_
  skip
  repeat' (first | refine runS ?_ | refine lAN c.cfg.enc c.cfg.enc rfl ?_ | fail)
  refine I.st ?_
  refine sGN (CS.cells ⟨s.dc, s.rg, s.nd, s.co, z, s.bs, ([] : List Ent), s.du, 0, s.ak, s.ow, s.su⟩ (.slice none 0 0)) c.cfg.enc (CS.cells ⟨s.dc, s.rg, s.nd, some c, z, s.bs, ([] : List Ent), s.du, 0, s.ak, s.ow, s.su⟩ (.slice none 0 0)) rfl rfl ?_
  try refine runS ?_
  have hc1 : ∀ (g : World) w, Cf g (fun i : Int => [CsBk b ⟨s.dc, s.rg, s.nd, some c, z, s.bs, ([] : List Ent), i, 0, s.ak, s.ow, s.su⟩ (.slice none 0 0)]) w → w.cell? ⟨b, 0 + 18, none⟩ = some (.slice none 0 0) := fun g w hw => by
   obtain ⟨i, h⟩ := hw
   have h1 := h.2.2 b _ (mem_cons_self ..)
   rw [cell_bk h1]; rfl
  refine W.hp (H' := [CfBk b3 c.cfg, CsBk b ⟨s.dc, s.rg, s.nd, some c, z, s.bs, ([] : List Ent), s.du, 0, s.ak, s.ow, s.su⟩ (.slice none 0 0), hv, R]) rfl ?_
  refine W.mixC (List.replicate 14 true ++ [false]) (Cf g (fun i : Int => [CsBk b ⟨s.dc, s.rg, s.nd, some c, z, s.bs, ([] : List Ent), i, 0, s.ak, s.ow, s.su⟩ (.slice none 0 0)])) (fun w h => Cf.of s.du h) Tryz.mix (by kernel_rfl) ?_
  repeat' (first | refine runS ?_ | refine WN.load rfl (hc1 g) rfl ?_ | refine WN.un0 (fun _ h => Cf.amb h) ?_ | refine WN.back0 ?_ | refine WN.an ?_ | fail)
  refine I.st ?_
  refine stN (CS.cells ⟨s.dc, s.rg, s.nd, some c, z, s.bs, ([] : List Ent), s.du, 0, s.ak, s.ow, s.su⟩ (.slice none 0 0)) (CS.cells ⟨s.dc, s.rg, s.nd, some c, z, s.bs, ([] : List Ent), (0 : Int), 0, s.ak, s.ow, s.su⟩ (.slice none 0 0)) rfl rfl ?_
  try refine runS ?_
  refine WN.back (fun w h => Cf.of (0 : Int) h) ?_
  repeat' (first | refine runS ?_ | refine WN.nil ?_ | fail)
  refine I.st ?_
  refine stN (CS.cells ⟨s.dc, s.rg, s.nd, some c, z, s.bs, ([] : List Ent), (0 : Int), 0, s.ak, s.ow, s.su⟩ (.slice none 0 0)) (CS.cells ⟨s.dc, s.rg, s.nd, some c, z, (0 : Int), ([] : List Ent), (0 : Int), 0, s.ak, s.ow, s.su⟩ (.slice none 0 0)) rfl rfl ?_
  try refine runS ?_
  refine I.st ?_
  refine stN (CS.cells ⟨s.dc, s.rg, s.nd, some c, z, (0 : Int), ([] : List Ent), (0 : Int), 0, s.ak, s.ow, s.su⟩ (.slice none 0 0)) (CS.cells ⟨s.dc, s.rg, s.nd, some c, z, (0 : Int), ([] : List Ent), (0 : Int), 0, 0, s.ow, s.su⟩ (.slice none 0 0)) rfl rfl ?_
  try refine runS ?_
  refine I.st ?_
  refine stN (CS.cells ⟨s.dc, s.rg, s.nd, some c, z, (0 : Int), ([] : List Ent), (0 : Int), 0, 0, s.ow, s.su⟩ (.slice none 0 0)) (CS.cells ⟨s.dc, s.rg, s.nd, some c, z, (0 : Int), ([] : List Ent), (0 : Int), 0, 0, 0, s.su⟩ (.slice none 0 0)) rfl rfl ?_
  try refine runS ?_
  refine I.st ?_
  refine stN (CS.cells ⟨s.dc, s.rg, s.nd, some c, z, (0 : Int), ([] : List Ent), (0 : Int), 0, 0, 0, s.su⟩ (.slice none 0 0)) (CS.cells ⟨s.dc, s.rg, s.nd, some c, z, (0 : Int), ([] : List Ent), (0 : Int), 0, 0, 0, true⟩ (.slice none 0 0)) rfl rfl ?_
  try refine runS ?_
  refine WX.call rfl (settle_ct (s := ⟨s.dc, s.rg, s.nd, some c, z, (0 : Int), ([] : List Ent), (0 : Int), 0, 0, 0, true⟩) (ChO.some okc) b (.slice none 0 0)) rfl ?_
  rintro _ _ ⟨rfl, rfl⟩
  simp only [ca, na]
  try refine runS ?_
  refine D.nilH ?_
  exact D.fin2 [CsBk b (CS.settle ⟨s.dc, s.rg, s.nd, some c, z, 0, [], 0, 0, 0, 0, true⟩) (.slice none 0 0), []] _ rfl rfl rfl ⟨rfl, _, [], rfl, by rw [(settle_same _).2.2.2.2.2.2.1]; exact IsSl.nil _⟩
 ·have e1 : s.enter0 c.cfg = ⟨s.dc, s.rg, s.nd, some c, s.sn, s.len, s.lg, s.len, s.st, 0, 0, true⟩ := by unfold CS.enter0; rw [hch, if_neg h1]
  have e2 : s.resets c.cfg = false := by unfold CS.resets; rw [hch]; exact decide_eq_false h1
  rw [e1, e2]
  clear e0 e1 e2 hch
  generalize sinceO (some c) s.nd = z at hsi h1
  refine Ct.mk' func81 rfl rfl rfl (fun g R => ?_)
  try simp only [ca]
  simp only [na]
  repeat' (first | refine runS ?_ | refine bx rfl (fun _ => ?_) | refine lAN c.cfg.enc c.cfg.enc rfl ?_ | refine WX.callQ rfl hrt rfl ?_ | fail)
  rename_i b3
  refine W.quiet Tryz.mix (by kernel_rfl) ?_
  try refine runS ?_
  refine W.quiet Tryz.mix (by kernel_rfl) ?_
  by_cases k1 : z ≠ 0
  ·have k2 : z = s.sn := Classical.byContradiction fun h => h1 ⟨k1, h⟩
   repeat' (first | refine runS ?_ | refine lAN c.cfg.enc c.cfg.enc rfl ?_ | refine WX.callQ rfl hsi rfl ?_ | fail)
   skip
   skip
   refine I.st ?_
   refine sGN (CS.cells ⟨s.dc, s.rg, s.nd, s.co, s.sn, s.bs, s.lg, s.du, s.st, s.ak, s.ow, s.su⟩ v) c.cfg.enc (CS.cells ⟨s.dc, s.rg, s.nd, some c, s.sn, s.bs, s.lg, s.du, s.st, s.ak, s.ow, s.su⟩ v) rfl rfl ?_
   try refine runS ?_
   have hc1 : ∀ (g : World) w, Cf g (fun i : Int => [CsBk b ⟨s.dc, s.rg, s.nd, some c, s.sn, s.bs, s.lg, i, s.st, s.ak, s.ow, s.su⟩ v]) w → w.cell? ⟨b, 0 + 18, none⟩ = some v := fun g w hw => by
    obtain ⟨i, h⟩ := hw
    have h1 := h.2.2 b _ (mem_cons_self ..)
    rw [cell_bk h1]; rfl
   refine W.hp (H' := [CfBk b3 c.cfg, CsBk b ⟨s.dc, s.rg, s.nd, some c, s.sn, s.bs, s.lg, s.du, s.st, s.ak, s.ow, s.su⟩ v, hv, R]) rfl ?_
   refine W.mixC (List.replicate 14 true ++ [false]) (Cf g (fun i : Int => [CsBk b ⟨s.dc, s.rg, s.nd, some c, s.sn, s.bs, s.lg, i, s.st, s.ak, s.ow, s.su⟩ v])) (fun w h => Cf.of s.du h) Tryz.mix (by kernel_rfl) ?_
   repeat' (first | refine runS ?_ | refine WN.load rfl (hc1 g) rfl ?_ | refine WN.un0 (fun _ h => Cf.amb h) ?_ | refine WN.back0 ?_ | refine WN.an ?_ | fail)
   refine I.st ?_
   refine stN (CS.cells ⟨s.dc, s.rg, s.nd, some c, s.sn, s.bs, s.lg, s.du, s.st, s.ak, s.ow, s.su⟩ v) (CS.cells ⟨s.dc, s.rg, s.nd, some c, s.sn, s.bs, s.lg, (s.len : Int), s.st, s.ak, s.ow, s.su⟩ v) rfl rfl ?_
   try refine runS ?_
   refine WN.back (fun w h => Cf.of (s.len : Int) h) ?_
   repeat' (first | refine runS ?_ | refine WN.nil ?_ | fail)
   refine I.st ?_
   refine stN (CS.cells ⟨s.dc, s.rg, s.nd, some c, s.sn, s.bs, s.lg, (s.len : Int), s.st, s.ak, s.ow, s.su⟩ v) (CS.cells ⟨s.dc, s.rg, s.nd, some c, s.sn, (s.len : Int), s.lg, (s.len : Int), s.st, s.ak, s.ow, s.su⟩ v) rfl rfl ?_
   try refine runS ?_
   refine I.st ?_
   refine stN (CS.cells ⟨s.dc, s.rg, s.nd, some c, s.sn, (s.len : Int), s.lg, (s.len : Int), s.st, s.ak, s.ow, s.su⟩ v) (CS.cells ⟨s.dc, s.rg, s.nd, some c, s.sn, (s.len : Int), s.lg, (s.len : Int), s.st, 0, s.ow, s.su⟩ v) rfl rfl ?_
   try refine runS ?_
   refine I.st ?_
   refine stN (CS.cells ⟨s.dc, s.rg, s.nd, some c, s.sn, (s.len : Int), s.lg, (s.len : Int), s.st, 0, s.ow, s.su⟩ v) (CS.cells ⟨s.dc, s.rg, s.nd, some c, s.sn, (s.len : Int), s.lg, (s.len : Int), s.st, 0, 0, s.su⟩ v) rfl rfl ?_
   try refine runS ?_
   refine I.st ?_
   refine stN (CS.cells ⟨s.dc, s.rg, s.nd, some c, s.sn, (s.len : Int), s.lg, (s.len : Int), s.st, 0, 0, s.su⟩ v) (CS.cells ⟨s.dc, s.rg, s.nd, some c, s.sn, (s.len : Int), s.lg, (s.len : Int), s.st, 0, 0, true⟩ v) rfl rfl ?_
   try refine runS ?_
   refine WX.call rfl (settle_ct (s := ⟨s.dc, s.rg, s.nd, some c, s.sn, (s.len : Int), s.lg, (s.len : Int), s.st, 0, 0, true⟩) (ChO.some okc) b v) rfl ?_
   rintro _ _ ⟨rfl, rfl⟩
   simp only [ca, na]
   try refine runS ?_
   exact D.fin2 [CsBk b (CS.settle ⟨s.dc, s.rg, s.nd, some c, s.sn, s.len, s.lg, s.len, s.st, 0, 0, true⟩) v, hv] _ rfl rfl rfl ⟨rfl, v, hv, rfl, by rw [(settle_same _).2.2.2.2.2.2.1]; exact hs⟩
  ·have k2 : z = 0 := Classical.not_not.1 k1
   repeat' (first | refine runS ?_ | refine lAN c.cfg.enc c.cfg.enc rfl ?_ | refine WX.callQ rfl hsi rfl ?_ | fail)
   skip
   skip
   refine I.st ?_
   refine sGN (CS.cells ⟨s.dc, s.rg, s.nd, s.co, s.sn, s.bs, s.lg, s.du, s.st, s.ak, s.ow, s.su⟩ v) c.cfg.enc (CS.cells ⟨s.dc, s.rg, s.nd, some c, s.sn, s.bs, s.lg, s.du, s.st, s.ak, s.ow, s.su⟩ v) rfl rfl ?_
   try refine runS ?_
   have hc1 : ∀ (g : World) w, Cf g (fun i : Int => [CsBk b ⟨s.dc, s.rg, s.nd, some c, s.sn, s.bs, s.lg, i, s.st, s.ak, s.ow, s.su⟩ v]) w → w.cell? ⟨b, 0 + 18, none⟩ = some v := fun g w hw => by
    obtain ⟨i, h⟩ := hw
    have h1 := h.2.2 b _ (mem_cons_self ..)
    rw [cell_bk h1]; rfl
   refine W.hp (H' := [CfBk b3 c.cfg, CsBk b ⟨s.dc, s.rg, s.nd, some c, s.sn, s.bs, s.lg, s.du, s.st, s.ak, s.ow, s.su⟩ v, hv, R]) rfl ?_
   refine W.mixC (List.replicate 14 true ++ [false]) (Cf g (fun i : Int => [CsBk b ⟨s.dc, s.rg, s.nd, some c, s.sn, s.bs, s.lg, i, s.st, s.ak, s.ow, s.su⟩ v])) (fun w h => Cf.of s.du h) Tryz.mix (by kernel_rfl) ?_
   repeat' (first | refine runS ?_ | refine WN.load rfl (hc1 g) rfl ?_ | refine WN.un0 (fun _ h => Cf.amb h) ?_ | refine WN.back0 ?_ | refine WN.an ?_ | fail)
   refine I.st ?_
   refine stN (CS.cells ⟨s.dc, s.rg, s.nd, some c, s.sn, s.bs, s.lg, s.du, s.st, s.ak, s.ow, s.su⟩ v) (CS.cells ⟨s.dc, s.rg, s.nd, some c, s.sn, s.bs, s.lg, (s.len : Int), s.st, s.ak, s.ow, s.su⟩ v) rfl rfl ?_
   try refine runS ?_
   refine WN.back (fun w h => Cf.of (s.len : Int) h) ?_
   repeat' (first | refine runS ?_ | refine WN.nil ?_ | fail)
   refine I.st ?_
   refine stN (CS.cells ⟨s.dc, s.rg, s.nd, some c, s.sn, s.bs, s.lg, (s.len : Int), s.st, s.ak, s.ow, s.su⟩ v) (CS.cells ⟨s.dc, s.rg, s.nd, some c, s.sn, (s.len : Int), s.lg, (s.len : Int), s.st, s.ak, s.ow, s.su⟩ v) rfl rfl ?_
   try refine runS ?_
   refine I.st ?_
   refine stN (CS.cells ⟨s.dc, s.rg, s.nd, some c, s.sn, (s.len : Int), s.lg, (s.len : Int), s.st, s.ak, s.ow, s.su⟩ v) (CS.cells ⟨s.dc, s.rg, s.nd, some c, s.sn, (s.len : Int), s.lg, (s.len : Int), s.st, 0, s.ow, s.su⟩ v) rfl rfl ?_
   try refine runS ?_
   refine I.st ?_
   refine stN (CS.cells ⟨s.dc, s.rg, s.nd, some c, s.sn, (s.len : Int), s.lg, (s.len : Int), s.st, 0, s.ow, s.su⟩ v) (CS.cells ⟨s.dc, s.rg, s.nd, some c, s.sn, (s.len : Int), s.lg, (s.len : Int), s.st, 0, 0, s.su⟩ v) rfl rfl ?_
   try refine runS ?_
   refine I.st ?_
   refine stN (CS.cells ⟨s.dc, s.rg, s.nd, some c, s.sn, (s.len : Int), s.lg, (s.len : Int), s.st, 0, 0, s.su⟩ v) (CS.cells ⟨s.dc, s.rg, s.nd, some c, s.sn, (s.len : Int), s.lg, (s.len : Int), s.st, 0, 0, true⟩ v) rfl rfl ?_
   try refine runS ?_
   refine WX.call rfl (settle_ct (s := ⟨s.dc, s.rg, s.nd, some c, s.sn, (s.len : Int), s.lg, (s.len : Int), s.st, 0, 0, true⟩) (ChO.some okc) b v) rfl ?_
   rintro _ _ ⟨rfl, rfl⟩
   simp only [ca, na]
   try refine runS ?_
   exact D.fin2 [CsBk b (CS.settle ⟨s.dc, s.rg, s.nd, some c, s.sn, s.len, s.lg, s.len, s.st, 0, 0, true⟩) v, hv] _ rfl rfl rfl ⟨rfl, v, hv, rfl, by rw [(settle_same _).2.2.2.2.2.2.1]; exact hs⟩
end Go.Proofs.YtejfahjgfedliaaGreat

namespace Go.Sl
open Go List
section
variable {g : World} {P : Program} {ops : Array Oper} {Q : Exit → Act → World → Prop} {q : Bool} {n d ty : Nat} {pos : String} {af : Array Edge} {rest : List Oper} {L : Fm} {H : HH} {v : Value}
theorem WX.ix1' {x y : Operand} {t e len j : Nat} {i : Int} {kd : IntKind} {cs : List Value} (hx : ev L x = some (.agg cs.toArray)) (hy : ev L y = some (.int kd i)) (hi : i = (j : Int)) [ht : TU P t (.array len e)] [tl : TL P e 1 false] (hj : j < len) (hc : cs[j]? = some v) (hd : Nat.blt d n = true)
  (k : WX q g P ops Q n rest ((d, v) :: L) H) : WX q g P ops Q n (⟨some d, .index t x y, ty, pos, af, none⟩ :: rest) L H := by
 subst hi; exact WX.ix1 hx hy hj hc hd k
end
end Go.Sl
namespace Go.Proofs.YtejfahjgfedliaaGreat
open Go Go.Sl Go.Proofs.Tryz List
theorem V3.put_at (v : V3) {k i : Nat} (hk : k < 3) (hi : i < 3) (x : Int) : (v.put k x).at i = if i = k then x else v.at i := by
 rcases (by omega : k = 0 ∨ k = 1 ∨ k = 2) with rfl | rfl | rfl <;> rcases (by omega : i = 0 ∨ i = 1 ∨ i = 2) with rfl | rfl | rfl <;> rfl
theorem colF_range (rg : Int) {es : List Ent} (h : ∀ e ∈ es, EntR e) {k : Nat} (hk : k < 3) : 0 ≤ (colF rg es).at k ∧ (colF rg es).at k ≤ MC := by
 have key : ∀ (es : List Ent) (c : V3), (∀ e ∈ es, EntR e) → (∀ i, i < 3 → 0 ≤ c.at i ∧ c.at i ≤ MC) → ∀ i, i < 3 → 0 ≤ (es.foldl (colStep rg) c).at i ∧ (es.foldl (colStep rg) c).at i ≤ MC := by
  intro es
  induction es with
  | nil => intro c _ hc; exact hc
  | cons e t ih =>
   intro c h hc
   refine ih _ (fun x hx => h x (mem_cons_of_mem _ hx)) fun i hi => ?_
   have he := h e (mem_cons_self ..)
   unfold colStep
   split
   ·rename_i hg
    have hd : e.dc.toNat < 3 := by have := hg.2.1; have := hg.2.2.1; omega
    rw [V3.put_at _ hd hi]
    split
    ·have h1 := hc e.dc.toNat hd
     have h2 := he.sq
     unfold mx
     split
     ·exact ⟨by omega, h2.2⟩
     ·exact h1
    ·exact hc i hi
   ·exact hc i hi
 refine key es V3.z h (fun i hi => ?_) k hk
 rcases (by omega : i = 0 ∨ i = 1 ∨ i = 2) with rfl | rfl | rfl <;> exact ⟨by decide, by decide⟩
set_option maxRecDepth 10000 in
set_option maxHeartbeats 1000000 in
theorem cinject_ct {s : CS} (ok : CsOk s) (b : Nat) {v : Value} {hv : Hp} (hs : IsSl 43 s.lg v hv) (e : Ent) :
  Ct prog 106 [.pointer (some ⟨b, 0, none⟩), .agg (List.toArray e.enc)] [CsBk b s v, hv] (fun r H' => r = .int .i64 (s.inject e).1 ∧ CsPost (s.inject e).2 b H') := by
 have hr := hs.rs
 have hll := ok.len
 have hlen : s.len = (s.lg.length : Int) := rfl
 have hih := isHead_ct ok.co b v
 have hen := entR_ct e
 have hcol := ccolumn_ct s b hr (by omega)
 have hbe := cbehind_ct s b hr (by omega) e.dp
 by_cases c1 : s.head
 rotate_left
 ·have e0 : s.inject e = (90, s) := if_pos c1
  rw [e0]
  rw [decide_eq_false c1] at hih
  clear hbe hcol hen
  refine Ct.mk' func106 rfl rfl rfl (fun g R => ?_)
  try simp only [ca]
  simp only [na]
  repeat' (first | refine runS ?_ | refine bx rfl (fun _ => ?_) | refine WX.callQ rfl hih rfl ?_ | fail)
  exact D.fin1 [CsBk b s v, hv] _ rfl rfl ⟨rfl, v, hv, rfl, hs⟩
 rw [decide_eq_true c1] at hih
 by_cases c2 : EntR e ∧ e.rg = s.rg ∧ ¬ e.dc = s.dc
 rotate_left
 ·have e0 : s.inject e = (1, s) := by
   unfold CS.inject
   rw [if_neg (fun h => h c1), if_pos]
   by_cases k1 : EntR e
   ·by_cases k2 : e.rg = s.rg
    ·exact .inr (.inr (Classical.byContradiction fun k3 => c2 ⟨k1, k2, k3⟩))
    ·exact .inr (.inl k2)
   ·exact .inl k1
  rw [e0]
  refine Ct.mk' func106 rfl rfl rfl (fun g R => ?_)
  try simp only [ca]
  simp only [na]
  repeat' (first | refine runS ?_ | refine bx rfl (fun _ => ?_) | refine WX.callQ rfl hih rfl ?_ | fail)
  refine W.quiet Tryz.mix (by kernel_rfl) ?_
  by_cases k1 : EntR e
  ·rw [decide_eq_true k1] at hen
   by_cases k2 : e.rg = s.rg
   ·have k3 : e.dc = s.dc := Classical.byContradiction fun k3 => c2 ⟨k1, k2, k3⟩
    repeat' (first | refine runS ?_ | refine lAN (t := 43) e.enc e.enc rfl ?_ | refine WX.callQ rfl hen rfl ?_ | fail)
    exact D.fin1 [CsBk b s v, hv] _ rfl rfl ⟨rfl, v, hv, rfl, hs⟩
   ·repeat' (first | refine runS ?_ | refine lAN (t := 43) e.enc e.enc rfl ?_ | refine WX.callQ rfl hen rfl ?_ | fail)
    exact D.fin1 [CsBk b s v, hv] _ rfl rfl ⟨rfl, v, hv, rfl, hs⟩
  ·rw [decide_eq_false k1] at hen
   repeat' (first | refine runS ?_ | refine lAN (t := 43) e.enc e.enc rfl ?_ | refine WX.callQ rfl hen rfl ?_ | fail)
   exact D.fin1 [CsBk b s v, hv] _ rfl rfl ⟨rfl, v, hv, rfl, hs⟩
 obtain ⟨k1, k2, k3⟩ := c2
 rw [decide_eq_true k1] at hen
 have hn1 : ¬ (¬ EntR e ∨ e.rg ≠ s.rg ∨ e.dc = s.dc) := by
  rintro (h | h | h)
  ·exact h k1
  ·exact h k2
  ·exact k3 h
 obtain ⟨j, hj⟩ : ∃ j : Nat, e.dc = (j : Int) := ⟨e.dc.toNat, by have := k1.ch.1; omega⟩
 have hj3 : j < 3 := by have := k1.ch.2.1; omega
 have hjn : e.dc.toNat = j := by omega
 have hat := (colF s.rg s.lg).enc_at hj3
 have hcr := colF_range s.rg ok.es hj3
 simp only [MC] at hcr
 obtain ⟨y, hy⟩ : ∃ y, (colF s.rg s.lg).at j = y := ⟨_, rfl⟩
 rw [hy] at hat hcr
 by_cases c3 : e.sq ≤ y
 ·have e0 : s.inject e = (80, s) := by unfold CS.inject; rw [if_neg (fun h => h c1), if_neg hn1, hjn, hy, if_pos c3]
  rw [e0]
  refine Ct.mk' func106 rfl rfl rfl (fun g R => ?_)
  try simp only [ca]
  simp only [na]
  repeat' (first | refine runS ?_ | refine bx rfl (fun _ => ?_) | refine WX.callQ rfl hih rfl ?_ | fail)
  refine W.quiet Tryz.mix (by kernel_rfl) ?_
  skip
  repeat' (first | refine runS ?_ | refine lAN (t := 43) e.enc e.enc rfl ?_ | refine WX.callQ rfl hen rfl ?_ | fail)
  refine W.quiet Tryz.mix (by kernel_rfl) ?_
  skip
  repeat' (first | refine runS ?_ | refine WX.callQ rfl hcol rfl ?_ | refine WX.ix1' rfl rfl hj (by omega) hat rfl ?_ | fail)
  exact D.fin1 [CsBk b s v, hv] _ rfl rfl ⟨rfl, v, hv, rfl, hs⟩
 by_cases c4 : e.sq > y + 1
 ·have e0 : s.inject e = (91, s) := by unfold CS.inject; rw [if_neg (fun h => h c1), if_neg hn1, hjn, hy, if_neg c3, if_pos c4]
  rw [e0]
  refine Ct.mk' func106 rfl rfl rfl (fun g R => ?_)
  try simp only [ca]
  simp only [na]
  repeat' (first | refine runS ?_ | refine bx rfl (fun _ => ?_) | refine WX.callQ rfl hih rfl ?_ | fail)
  refine W.quiet Tryz.mix (by kernel_rfl) ?_
  skip
  repeat' (first | refine runS ?_ | refine lAN (t := 43) e.enc e.enc rfl ?_ | refine WX.callQ rfl hen rfl ?_ | fail)
  refine W.quiet Tryz.mix (by kernel_rfl) ?_
  skip
  repeat' (first | refine runS ?_ | refine WX.callQ rfl hcol rfl ?_ | refine WX.ix1' rfl rfl hj (by omega) hat rfl ?_ | fail)
  exact D.fin1 [CsBk b s v, hv] _ rfl rfl ⟨rfl, v, hv, rfl, hs⟩
 by_cases c5 : s.covers e.dp
 rotate_left
 ·have e0 : s.inject e = (91, s) := by unfold CS.inject; rw [if_neg (fun h => h c1), if_neg hn1, hjn, hy, if_neg c3, if_neg c4, if_pos c5]
  rw [e0]
  rw [decide_eq_true c5] at hbe
  refine Ct.mk' func106 rfl rfl rfl (fun g R => ?_)
  try simp only [ca]
  simp only [na]
  repeat' (first | refine runS ?_ | refine bx rfl (fun _ => ?_) | refine WX.callQ rfl hih rfl ?_ | fail)
  refine W.quiet Tryz.mix (by kernel_rfl) ?_
  skip
  repeat' (first | refine runS ?_ | refine lAN (t := 43) e.enc e.enc rfl ?_ | refine WX.callQ rfl hen rfl ?_ | fail)
  refine W.quiet Tryz.mix (by kernel_rfl) ?_
  skip
  repeat' (first | refine runS ?_ | refine al (fun _ => ?_) | refine lAN (t := 37) e.enc e.dp.enc rfl ?_ | refine lAN (t := 37) e.dp.enc e.dp.enc rfl ?_ | refine WX.callQ rfl hcol rfl ?_ | refine WX.callQ rfl hbe rfl ?_ | refine WX.ix1' rfl rfl hj (by omega) hat rfl ?_ | refine sGW V9.z.enc e.dp.enc rfl rfl ?_ | fail)
  exact D.fin1 [CsBk b s v, hv] _ rfl rfl ⟨rfl, v, hv, rfl, hs⟩
 rw [decide_eq_false (fun h => h c5)] at hbe
 by_cases c6 : 256 ≤ s.len
 ·have e0 : s.inject e = (2, s) := by unfold CS.inject; rw [if_neg (fun h => h c1), if_neg hn1, hjn, hy, if_neg c3, if_neg c4, if_neg (fun h => h c5), if_pos c6]
  rw [e0]
  refine Ct.mk' func106 rfl rfl rfl (fun g R => ?_)
  try simp only [ca]
  simp only [na]
  repeat' (first | refine runS ?_ | refine bx rfl (fun _ => ?_) | refine WX.callQ rfl hih rfl ?_ | fail)
  refine W.quiet Tryz.mix (by kernel_rfl) ?_
  skip
  repeat' (first | refine runS ?_ | refine lAN (t := 43) e.enc e.enc rfl ?_ | refine WX.callQ rfl hen rfl ?_ | fail)
  refine W.quiet Tryz.mix (by kernel_rfl) ?_
  skip
  repeat' (first | refine runS ?_ | refine al (fun _ => ?_) | refine lAN (t := 37) e.enc e.dp.enc rfl ?_ | refine lAN (t := 37) e.dp.enc e.dp.enc rfl ?_ | refine WX.callQ rfl hcol rfl ?_ | refine WX.callQ rfl hbe rfl ?_ | refine WX.ix1' rfl rfl hj (by omega) hat rfl ?_ | refine sGW V9.z.enc e.dp.enc rfl rfl ?_ | fail)
  exact D.fin1 [CsBk b s v, hv] _ rfl rfl ⟨rfl, v, hv, rfl, hs⟩
 have e0 : s.inject e = (0, (s.push e).settle) := by unfold CS.inject; rw [if_neg (fun h => h c1), if_neg hn1, hjn, hy, if_neg c3, if_neg c4, if_neg (fun h => h c5), if_neg c6]
 rw [e0]
 have hse := fun v' => settle_ct (s := s.push e) ok.co b v'
 refine Ct.mk' func106 rfl rfl rfl (fun g R => ?_)
 try simp only [ca]
 simp only [na]
 repeat' (first | refine runS ?_ | refine bx rfl (fun _ => ?_) | refine WX.callQ rfl hih rfl ?_ | fail)
 rename_i b3
 refine W.quiet Tryz.mix (by kernel_rfl) ?_
 skip
 repeat' (first | refine runS ?_ | refine lAN (t := 43) e.enc e.enc rfl ?_ | refine WX.callQ rfl hen rfl ?_ | fail)
 refine W.quiet Tryz.mix (by kernel_rfl) ?_
 skip
 repeat' (first | refine runS ?_ | refine al (fun _ => ?_) | refine lAN (t := 37) e.enc e.dp.enc rfl ?_ | refine lAN (t := 37) e.dp.enc e.dp.enc rfl ?_ | refine WX.callQ rfl hcol rfl ?_ | refine WX.callQ rfl hbe rfl ?_ | refine WX.ix1' rfl rfl hj (by omega) hat rfl ?_ | refine sGW V9.z.enc e.dp.enc rfl rfl ?_ | fail)
 refine W.mixN 8 [true, true, true, true, true, true, false, false] [CsBk b s v, EnBk b3 e] Tryz.mix (by kernel_rfl) ?_
 repeat' (first | refine runS ?_ | refine lAN (t := 43) e.enc e.enc rfl ?_ | fail)
 refine I.bs ?_
 refine WX.lit (ys := [e]) rfl rfl rfl rfl rfl rfl (by decide) rfl (fun v2 h2 hs2 => ?_)
 try refine runS ?_
 refine WX.app rfl rfl hs hs2.rs rfl rfl (by decide) (by simp only [length_cons, length_nil]; omega) rfl (fun v3 h3 hs3 => ?_)
 obtain ⟨p3, c3', e3⟩ := hs3.rs.len
 subst e3
 try refine runS ?_
 refine I.st ?_
 refine stN (s.cells v) (CS.cells (s.push e) (.slice p3 (s.lg ++ [e]).length c3')) rfl rfl ?_
 try refine runS ?_
 refine WX.call rfl (hse (.slice p3 (s.lg ++ [e]).length c3')) rfl ?_
 rintro _ _ ⟨rfl, rfl⟩
 simp only [ca, na]
 try refine runS ?_
 exact D.fin1 [CsBk b (s.push e).settle (.slice p3 (s.lg ++ [e]).length c3'), h3] _ rfl rfl ⟨rfl, _, h3, rfl, by rw [push_lg]; exact hs3⟩
set_option maxRecDepth 10000 in
set_option maxHeartbeats 2000000 in
theorem cput_ct {s : CS} (ok : CsOk s) (b : Nat) {v : Value} {hv : Hp} (hs : IsSl 43 s.lg v hv) (key val : ByteArray) (dead : Bool) (deps : V9) (clock cl op : Int) :
  Ct prog 68 [.pointer (some ⟨b, 0, none⟩), .string key, .string val, .bool dead, .agg (List.toArray deps.enc), .int .i64 clock, .int .i64 cl, .int .i64 op] [CsBk b s v, hv]
   (fun r H' => r = .tuple #[.int .i64 (s.putS key val dead deps clock cl op).1.1, .int .i64 (s.putS key val dead deps clock cl op).1.2] ∧ CsPost (s.putS key val dead deps clock cl op).2 b H') := by
 have hr := hs.rs
 have hll := ok.len
 have hlen : s.len = (s.lg.length : Int) := rfl
 have hih := isHead_ct ok.co b v
 have hfo := cfound_ct s b hr (by omega) cl op
 have hcol := ccolumn_ct s b hr (by omega)
 have hbe := cbehind_ct s b hr (by omega) deps
 by_cases c1 : s.head
 rotate_left
 ·have e0 : s.putS key val dead deps clock cl op = ((0, 90), s) := if_pos c1
  rw [e0]
  rw [decide_eq_false c1] at hih
  refine Ct.mk' func68 rfl rfl rfl (fun g R => ?_)
  try simp only [ca]
  simp only [na]
  skip
  repeat' (first | refine runS ?_ | refine bx rfl (fun _ => ?_) | refine WX.callQ rfl hih rfl ?_ | fail)
  exact D.fin2 [CsBk b s v, hv] _ rfl rfl rfl ⟨rfl, v, hv, rfl, hs⟩
 rw [decide_eq_true c1] at hih
 by_cases c2 : 0 < foundE s.lg cl op
 ·have e0 : s.putS key val dead deps clock cl op = ((foundE s.lg cl op, 0), s) := by unfold CS.putS; rw [if_neg (fun h => h c1), if_pos c2]
  rw [e0]
  refine Ct.mk' func68 rfl rfl rfl (fun g R => ?_)
  try simp only [ca]
  simp only [na]
  skip
  repeat' (first | refine runS ?_ | refine bx rfl (fun _ => ?_) | refine WX.callQ rfl hih rfl ?_ | refine WX.callQ rfl hfo rfl ?_ | fail)
  exact D.fin2 [CsBk b s v, hv] _ rfl rfl rfl ⟨rfl, v, hv, rfl, hs⟩
 by_cases c3 : s.covers deps
 rotate_left
 ·have e0 : s.putS key val dead deps clock cl op = ((0, 91), s) := by unfold CS.putS; rw [if_neg (fun h => h c1), if_neg c2, if_pos c3]
  rw [e0]
  rw [decide_eq_true c3] at hbe
  by_cases hN : s.nextOk clock
  ·skip
   refine Ct.mk' func68 rfl rfl rfl (fun g R => ?_)
   try simp only [ca]
   simp only [na]
   skip
   repeat' (first | refine runS ?_ | refine bx rfl (fun _ => ?_) | refine WX.callQ rfl hih rfl ?_ | refine WX.callQ rfl hfo rfl ?_ | fail)
   rename_i b12
   refine I.bs ?_
   refine WX.lit (ys := [clock]) rfl rfl rfl rfl rfl rfl (by decide) rfl (fun v1 h1 hs1 => ?_)
   skip
   try refine runS ?_
   refine W.hp (H' := [h1, VcBk b12 deps, CsBk b s v, hv, R]) rfl ?_
   refine W.loop (α := Nat × Value × Hp) (fun x => x.1 ≤ s.lg.length ∧ IsSl 3 (clock :: (s.lg.take x.1).map (·.ct)) x.2.1 x.2.2) (fun x => [(0, .pointer (some ⟨b, 0, none⟩)), (1, .string key), (2, .string val), (3, .bool dead), (6, .int .i64 cl), (7, .int .i64 op), (12, .pointer (some ⟨b12, 0, none⟩)), (19, x.2.1), (41, v), (42, .int .i64 (s.lg.length : Int)), (43, .int .i64 (x.1 : Int))])
    (fun x => [x.2.2, VcBk b12 deps, CsBk b s v, hv, R]) (fun x => s.lg.length - x.1) (0, v1, h1) ⟨Nat.zero_le _, hs1⟩ (by repeat (first | exact Fsub.nil | refine Fsub.cons rfl ?_)) (Hsub.of_picks inferInstance) ?_
   rintro ⟨i, w, hw⟩ ⟨hi, hsw⟩
   simp only [] at hi hsw ⊢
   have hwl : (clock :: (s.lg.take i).map (·.ct)).length ≤ 257 := by rw [length_cons, length_map, length_take]; omega
   by_cases hlt : i < s.lg.length
   ·obtain ⟨x, hx⟩ : ∃ x, s.lg[i]? = some x := ⟨_, List.getElem?_eq_getElem hlt⟩
    repeat' (first | refine runS ?_ | refine al (fun _ => ?_) | refine WX.loadEW rfl hr hx rfl rfl ?_ | refine sGW Ent.z.enc x.enc rfl rfl ?_ | fail)
    refine I.bs ?_
    refine WX.lit (ys := [x.ct]) rfl rfl rfl rfl rfl rfl (by decide) rfl (fun v2 h2 hs2 => ?_)
    skip
    refine WX.app rfl rfl hsw hs2.rs rfl rfl (by decide) (by simp only [length_cons, length_nil] at hwl ⊢; omega) rfl (fun v3 h3 hs3 => ?_)
    have hs3 : IsSl 3 (clock :: (s.lg.take (i + 1)).map (·.ct)) v3 h3 := by rw [take_add_one, hx, map_append]; exact hs3
    try refine runS ?_
    exact D.rd (i + 1, v3, h3) ⟨by simp only []; omega, hs3⟩ (by simp only []; omega)
   obtain rfl : i = s.lg.length := by omega
   rw [take_length] at hsw hwl
   have hnx := next_ct s.dc s.rg hsw.rs (by omega)
   clear hsw hs1
   try refine runS ?_
   rw [decide_eq_true hN] at hnx
   skip
   refine W.mixA 8 [true, true, true, true, true, true, true, true, true, false, true, true, true, false, false] 13 [CsBk b s v] Tryz.mix (by kernel_rfl) rfl ?_
   skip
   repeat' (first | refine runS ?_ | refine al (fun _ => ?_) | refine WX.callQ rfl hnx rfl ?_ | refine WA.un ?_ | refine WA.backU ?_ | refine WA.back ?_ | refine WA.an ?_ ?_ | refine WA.nil ?_ | fail)
   all_goals
    skip
    skip
    rename_i b22
    refine WX.hp (H' := [[(b22, .cells (List.toArray [.int .i64 0, .int .i64 0, .int .i64 0]) 41 (0, 0))], hw, VcBk b12 deps, CsBk b s v, hv, R]) rfl ?_
    refine I.st ?_
    refine sGW [.int .i64 0, .int .i64 0, .int .i64 0] [.int .i64 (nextCt (clock :: s.lg.map (fun (e : Ent) => e.ct))), .int .i64 s.dc, .int .i64 s.rg] rfl rfl ?_
    skip
    repeat' (first | refine runS ?_ | refine lAN (t := 37) deps.enc deps.enc rfl ?_ | refine WX.callQ rfl hbe rfl ?_ | fail)
    exact D.fin2 [CsBk b s v, hv] _ rfl rfl rfl ⟨rfl, v, hv, rfl, hs⟩
  ·skip
   refine Ct.mk' func68 rfl rfl rfl (fun g R => ?_)
   try simp only [ca]
   simp only [na]
   skip
   repeat' (first | refine runS ?_ | refine bx rfl (fun _ => ?_) | refine WX.callQ rfl hih rfl ?_ | refine WX.callQ rfl hfo rfl ?_ | fail)
   rename_i b12
   refine I.bs ?_
   refine WX.lit (ys := [clock]) rfl rfl rfl rfl rfl rfl (by decide) rfl (fun v1 h1 hs1 => ?_)
   skip
   try refine runS ?_
   refine W.hp (H' := [h1, VcBk b12 deps, CsBk b s v, hv, R]) rfl ?_
   refine W.loop (α := Nat × Value × Hp) (fun x => x.1 ≤ s.lg.length ∧ IsSl 3 (clock :: (s.lg.take x.1).map (·.ct)) x.2.1 x.2.2) (fun x => [(0, .pointer (some ⟨b, 0, none⟩)), (1, .string key), (2, .string val), (3, .bool dead), (6, .int .i64 cl), (7, .int .i64 op), (12, .pointer (some ⟨b12, 0, none⟩)), (19, x.2.1), (41, v), (42, .int .i64 (s.lg.length : Int)), (43, .int .i64 (x.1 : Int))])
    (fun x => [x.2.2, VcBk b12 deps, CsBk b s v, hv, R]) (fun x => s.lg.length - x.1) (0, v1, h1) ⟨Nat.zero_le _, hs1⟩ (by repeat (first | exact Fsub.nil | refine Fsub.cons rfl ?_)) (Hsub.of_picks inferInstance) ?_
   rintro ⟨i, w, hw⟩ ⟨hi, hsw⟩
   simp only [] at hi hsw ⊢
   have hwl : (clock :: (s.lg.take i).map (·.ct)).length ≤ 257 := by rw [length_cons, length_map, length_take]; omega
   by_cases hlt : i < s.lg.length
   ·obtain ⟨x, hx⟩ : ∃ x, s.lg[i]? = some x := ⟨_, List.getElem?_eq_getElem hlt⟩
    repeat' (first | refine runS ?_ | refine al (fun _ => ?_) | refine WX.loadEW rfl hr hx rfl rfl ?_ | refine sGW Ent.z.enc x.enc rfl rfl ?_ | fail)
    refine I.bs ?_
    refine WX.lit (ys := [x.ct]) rfl rfl rfl rfl rfl rfl (by decide) rfl (fun v2 h2 hs2 => ?_)
    skip
    refine WX.app rfl rfl hsw hs2.rs rfl rfl (by decide) (by simp only [length_cons, length_nil] at hwl ⊢; omega) rfl (fun v3 h3 hs3 => ?_)
    have hs3 : IsSl 3 (clock :: (s.lg.take (i + 1)).map (·.ct)) v3 h3 := by rw [take_add_one, hx, map_append]; exact hs3
    try refine runS ?_
    exact D.rd (i + 1, v3, h3) ⟨by simp only []; omega, hs3⟩ (by simp only []; omega)
   obtain rfl : i = s.lg.length := by omega
   rw [take_length] at hsw hwl
   have hnx := next_ct s.dc s.rg hsw.rs (by omega)
   clear hsw hs1
   try refine runS ?_
   rw [decide_eq_false hN] at hnx
   skip
   refine W.mixA 8 [true, true, true, true, true, true, true, true, true, false, true, true, true, false, false] 13 [CsBk b s v] Tryz.mix (by kernel_rfl) rfl ?_
   skip
   repeat' (first | refine runS ?_ | refine al (fun _ => ?_) | refine WX.callQ rfl hnx rfl ?_ | refine WA.un ?_ | refine WA.backU ?_ | refine WA.back ?_ | refine WA.an ?_ ?_ | refine WA.nil ?_ | fail)
   all_goals
    skip
    skip
    rename_i b22
    refine WX.hp (H' := [[(b22, .cells (List.toArray [.int .i64 0, .int .i64 0, .int .i64 0]) 41 (0, 0))], hw, VcBk b12 deps, CsBk b s v, hv, R]) rfl ?_
    refine I.st ?_
    refine sGW [.int .i64 0, .int .i64 0, .int .i64 0] [.int .i64 0, .int .i64 0, .int .i64 0] rfl rfl ?_
    skip
    repeat' (first | refine runS ?_ | refine lAN (t := 37) deps.enc deps.enc rfl ?_ | refine WX.callQ rfl hbe rfl ?_ | fail)
    exact D.fin2 [CsBk b s v, hv] _ rfl rfl rfl ⟨rfl, v, hv, rfl, hs⟩
 rw [decide_eq_false (fun h => h c3)] at hbe
 by_cases hN : s.nextOk clock
 rotate_left
 ·have e0 : s.putS key val dead deps clock cl op = ((0, 2), s) := by unfold CS.putS; rw [if_neg (fun h => h c1), if_neg c2, if_neg (fun h => h c3), if_pos (.inr hN)]
  rw [e0]
  skip
  refine Ct.mk' func68 rfl rfl rfl (fun g R => ?_)
  try simp only [ca]
  simp only [na]
  skip
  repeat' (first | refine runS ?_ | refine bx rfl (fun _ => ?_) | refine WX.callQ rfl hih rfl ?_ | refine WX.callQ rfl hfo rfl ?_ | fail)
  rename_i b12
  refine I.bs ?_
  refine WX.lit (ys := [clock]) rfl rfl rfl rfl rfl rfl (by decide) rfl (fun v1 h1 hs1 => ?_)
  skip
  try refine runS ?_
  refine W.hp (H' := [h1, VcBk b12 deps, CsBk b s v, hv, R]) rfl ?_
  refine W.loop (α := Nat × Value × Hp) (fun x => x.1 ≤ s.lg.length ∧ IsSl 3 (clock :: (s.lg.take x.1).map (·.ct)) x.2.1 x.2.2) (fun x => [(0, .pointer (some ⟨b, 0, none⟩)), (1, .string key), (2, .string val), (3, .bool dead), (6, .int .i64 cl), (7, .int .i64 op), (12, .pointer (some ⟨b12, 0, none⟩)), (19, x.2.1), (41, v), (42, .int .i64 (s.lg.length : Int)), (43, .int .i64 (x.1 : Int))])
   (fun x => [x.2.2, VcBk b12 deps, CsBk b s v, hv, R]) (fun x => s.lg.length - x.1) (0, v1, h1) ⟨Nat.zero_le _, hs1⟩ (by repeat (first | exact Fsub.nil | refine Fsub.cons rfl ?_)) (Hsub.of_picks inferInstance) ?_
  rintro ⟨i, w, hw⟩ ⟨hi, hsw⟩
  simp only [] at hi hsw ⊢
  have hwl : (clock :: (s.lg.take i).map (·.ct)).length ≤ 257 := by rw [length_cons, length_map, length_take]; omega
  by_cases hlt : i < s.lg.length
  ·obtain ⟨x, hx⟩ : ∃ x, s.lg[i]? = some x := ⟨_, List.getElem?_eq_getElem hlt⟩
   repeat' (first | refine runS ?_ | refine al (fun _ => ?_) | refine WX.loadEW rfl hr hx rfl rfl ?_ | refine sGW Ent.z.enc x.enc rfl rfl ?_ | fail)
   refine I.bs ?_
   refine WX.lit (ys := [x.ct]) rfl rfl rfl rfl rfl rfl (by decide) rfl (fun v2 h2 hs2 => ?_)
   skip
   refine WX.app rfl rfl hsw hs2.rs rfl rfl (by decide) (by simp only [length_cons, length_nil] at hwl ⊢; omega) rfl (fun v3 h3 hs3 => ?_)
   have hs3 : IsSl 3 (clock :: (s.lg.take (i + 1)).map (·.ct)) v3 h3 := by rw [take_add_one, hx, map_append]; exact hs3
   try refine runS ?_
   exact D.rd (i + 1, v3, h3) ⟨by simp only []; omega, hs3⟩ (by simp only []; omega)
  obtain rfl : i = s.lg.length := by omega
  rw [take_length] at hsw hwl
  have hnx := next_ct s.dc s.rg hsw.rs (by omega)
  clear hsw hs1
  try refine runS ?_
  rw [decide_eq_false hN] at hnx
  skip
  refine W.mixA 8 [true, true, true, true, true, true, true, true, true, false, true, true, true, false, false] 13 [CsBk b s v] Tryz.mix (by kernel_rfl) rfl ?_
  skip
  repeat' (first | refine runS ?_ | refine al (fun _ => ?_) | refine WX.callQ rfl hnx rfl ?_ | refine WA.un ?_ | refine WA.backU ?_ | refine WA.back ?_ | refine WA.an ?_ ?_ | refine WA.nil ?_ | fail)
  all_goals
   skip
   by_cases c4 : 256 ≤ s.len
   ·skip
    rename_i b22
    refine WX.hp (H' := [[(b22, .cells (List.toArray [.int .i64 0, .int .i64 0, .int .i64 0]) 41 (0, 0))], hw, VcBk b12 deps, CsBk b s v, hv, R]) rfl ?_
    refine I.st ?_
    refine sGW [.int .i64 0, .int .i64 0, .int .i64 0] [.int .i64 0, .int .i64 0, .int .i64 0] rfl rfl ?_
    skip
    repeat' (first | refine runS ?_ | refine lAN (t := 37) deps.enc deps.enc rfl ?_ | refine WX.callQ rfl hbe rfl ?_ | fail)
    exact D.fin2 [CsBk b s v, hv] _ rfl rfl rfl ⟨rfl, v, hv, rfl, hs⟩
   ·skip
    rename_i b22
    refine WX.hp (H' := [[(b22, .cells (List.toArray [.int .i64 0, .int .i64 0, .int .i64 0]) 41 (0, 0))], hw, VcBk b12 deps, CsBk b s v, hv, R]) rfl ?_
    refine I.st ?_
    refine sGW [.int .i64 0, .int .i64 0, .int .i64 0] [.int .i64 0, .int .i64 0, .int .i64 0] rfl rfl ?_
    skip
    repeat' (first | refine runS ?_ | refine lAN (t := 37) deps.enc deps.enc rfl ?_ | refine WX.callQ rfl hbe rfl ?_ | fail)
    exact D.fin2 [CsBk b s v, hv] _ rfl rfl rfl ⟨rfl, v, hv, rfl, hs⟩
 by_cases c4 : 256 ≤ s.len
 ·have e0 : s.putS key val dead deps clock cl op = ((0, 2), s) := by unfold CS.putS; rw [if_neg (fun h => h c1), if_neg c2, if_neg (fun h => h c3), if_pos (.inl c4)]
  rw [e0]
  skip
  refine Ct.mk' func68 rfl rfl rfl (fun g R => ?_)
  try simp only [ca]
  simp only [na]
  skip
  repeat' (first | refine runS ?_ | refine bx rfl (fun _ => ?_) | refine WX.callQ rfl hih rfl ?_ | refine WX.callQ rfl hfo rfl ?_ | fail)
  rename_i b12
  refine I.bs ?_
  refine WX.lit (ys := [clock]) rfl rfl rfl rfl rfl rfl (by decide) rfl (fun v1 h1 hs1 => ?_)
  skip
  try refine runS ?_
  refine W.hp (H' := [h1, VcBk b12 deps, CsBk b s v, hv, R]) rfl ?_
  refine W.loop (α := Nat × Value × Hp) (fun x => x.1 ≤ s.lg.length ∧ IsSl 3 (clock :: (s.lg.take x.1).map (·.ct)) x.2.1 x.2.2) (fun x => [(0, .pointer (some ⟨b, 0, none⟩)), (1, .string key), (2, .string val), (3, .bool dead), (6, .int .i64 cl), (7, .int .i64 op), (12, .pointer (some ⟨b12, 0, none⟩)), (19, x.2.1), (41, v), (42, .int .i64 (s.lg.length : Int)), (43, .int .i64 (x.1 : Int))])
   (fun x => [x.2.2, VcBk b12 deps, CsBk b s v, hv, R]) (fun x => s.lg.length - x.1) (0, v1, h1) ⟨Nat.zero_le _, hs1⟩ (by repeat (first | exact Fsub.nil | refine Fsub.cons rfl ?_)) (Hsub.of_picks inferInstance) ?_
  rintro ⟨i, w, hw⟩ ⟨hi, hsw⟩
  simp only [] at hi hsw ⊢
  have hwl : (clock :: (s.lg.take i).map (·.ct)).length ≤ 257 := by rw [length_cons, length_map, length_take]; omega
  by_cases hlt : i < s.lg.length
  ·obtain ⟨x, hx⟩ : ∃ x, s.lg[i]? = some x := ⟨_, List.getElem?_eq_getElem hlt⟩
   repeat' (first | refine runS ?_ | refine al (fun _ => ?_) | refine WX.loadEW rfl hr hx rfl rfl ?_ | refine sGW Ent.z.enc x.enc rfl rfl ?_ | fail)
   refine I.bs ?_
   refine WX.lit (ys := [x.ct]) rfl rfl rfl rfl rfl rfl (by decide) rfl (fun v2 h2 hs2 => ?_)
   skip
   refine WX.app rfl rfl hsw hs2.rs rfl rfl (by decide) (by simp only [length_cons, length_nil] at hwl ⊢; omega) rfl (fun v3 h3 hs3 => ?_)
   have hs3 : IsSl 3 (clock :: (s.lg.take (i + 1)).map (·.ct)) v3 h3 := by rw [take_add_one, hx, map_append]; exact hs3
   try refine runS ?_
   exact D.rd (i + 1, v3, h3) ⟨by simp only []; omega, hs3⟩ (by simp only []; omega)
  obtain rfl : i = s.lg.length := by omega
  rw [take_length] at hsw hwl
  have hnx := next_ct s.dc s.rg hsw.rs (by omega)
  clear hsw hs1
  try refine runS ?_
  rw [decide_eq_true hN] at hnx
  skip
  refine W.mixA 8 [true, true, true, true, true, true, true, true, true, false, true, true, true, false, false] 13 [CsBk b s v] Tryz.mix (by kernel_rfl) rfl ?_
  skip
  repeat' (first | refine runS ?_ | refine al (fun _ => ?_) | refine WX.callQ rfl hnx rfl ?_ | refine WA.un ?_ | refine WA.backU ?_ | refine WA.back ?_ | refine WA.an ?_ ?_ | refine WA.nil ?_ | fail)
  all_goals
   skip
   skip
   rename_i b22
   refine WX.hp (H' := [[(b22, .cells (List.toArray [.int .i64 0, .int .i64 0, .int .i64 0]) 41 (0, 0))], hw, VcBk b12 deps, CsBk b s v, hv, R]) rfl ?_
   refine I.st ?_
   refine sGW [.int .i64 0, .int .i64 0, .int .i64 0] [.int .i64 (nextCt (clock :: s.lg.map (fun (e : Ent) => e.ct))), .int .i64 s.dc, .int .i64 s.rg] rfl rfl ?_
   skip
   repeat' (first | refine runS ?_ | refine lAN (t := 37) deps.enc deps.enc rfl ?_ | refine WX.callQ rfl hbe rfl ?_ | fail)
   exact D.fin2 [CsBk b s v, hv] _ rfl rfl rfl ⟨rfl, v, hv, rfl, hs⟩
 have hj : s.dc = (s.dc.toNat : Int) := by have := hN.2.2.1; omega
 have hj3 : s.dc.toNat < 3 := by have := hN.2.2.2.1; omega
 have hat := (colF s.rg s.lg).enc_at hj3
 have hcr := colF_range s.rg ok.es hj3
 simp only [MC] at hcr
 have hpa := past_ct hr (by omega)
 have hen := entR_ct (s.entry key val dead deps clock cl op)
 have hn4 : ¬ (256 ≤ s.len ∨ ¬ s.nextOk clock) := fun h => h.elim c4 (fun h => h hN)
 by_cases c5 : EntR (s.entry key val dead deps clock cl op)
 rotate_left
 ·have e0 : s.putS key val dead deps clock cl op = ((0, 1), s) := by unfold CS.putS; rw [if_neg (fun h => h c1), if_neg c2, if_neg (fun h => h c3), if_neg hn4, if_pos c5]
  rw [e0]
  rw [decide_eq_false c5] at hen
  skip
  refine Ct.mk' func68 rfl rfl rfl (fun g R => ?_)
  try simp only [ca]
  simp only [na]
  skip
  repeat' (first | refine runS ?_ | refine bx rfl (fun _ => ?_) | refine WX.callQ rfl hih rfl ?_ | refine WX.callQ rfl hfo rfl ?_ | fail)
  rename_i b12
  refine I.bs ?_
  refine WX.lit (ys := [clock]) rfl rfl rfl rfl rfl rfl (by decide) rfl (fun v1 h1 hs1 => ?_)
  skip
  try refine runS ?_
  refine W.hp (H' := [h1, VcBk b12 deps, CsBk b s v, hv, R]) rfl ?_
  refine W.loop (α := Nat × Value × Hp) (fun x => x.1 ≤ s.lg.length ∧ IsSl 3 (clock :: (s.lg.take x.1).map (·.ct)) x.2.1 x.2.2) (fun x => [(0, .pointer (some ⟨b, 0, none⟩)), (1, .string key), (2, .string val), (3, .bool dead), (6, .int .i64 cl), (7, .int .i64 op), (12, .pointer (some ⟨b12, 0, none⟩)), (19, x.2.1), (41, v), (42, .int .i64 (s.lg.length : Int)), (43, .int .i64 (x.1 : Int))])
   (fun x => [x.2.2, VcBk b12 deps, CsBk b s v, hv, R]) (fun x => s.lg.length - x.1) (0, v1, h1) ⟨Nat.zero_le _, hs1⟩ (by repeat (first | exact Fsub.nil | refine Fsub.cons rfl ?_)) (Hsub.of_picks inferInstance) ?_
  rintro ⟨i, w, hw⟩ ⟨hi, hsw⟩
  simp only [] at hi hsw ⊢
  have hwl : (clock :: (s.lg.take i).map (·.ct)).length ≤ 257 := by rw [length_cons, length_map, length_take]; omega
  by_cases hlt : i < s.lg.length
  ·obtain ⟨x, hx⟩ : ∃ x, s.lg[i]? = some x := ⟨_, List.getElem?_eq_getElem hlt⟩
   repeat' (first | refine runS ?_ | refine al (fun _ => ?_) | refine WX.loadEW rfl hr hx rfl rfl ?_ | refine sGW Ent.z.enc x.enc rfl rfl ?_ | fail)
   refine I.bs ?_
   refine WX.lit (ys := [x.ct]) rfl rfl rfl rfl rfl rfl (by decide) rfl (fun v2 h2 hs2 => ?_)
   skip
   refine WX.app rfl rfl hsw hs2.rs rfl rfl (by decide) (by simp only [length_cons, length_nil] at hwl ⊢; omega) rfl (fun v3 h3 hs3 => ?_)
   have hs3 : IsSl 3 (clock :: (s.lg.take (i + 1)).map (·.ct)) v3 h3 := by rw [take_add_one, hx, map_append]; exact hs3
   try refine runS ?_
   exact D.rd (i + 1, v3, h3) ⟨by simp only []; omega, hs3⟩ (by simp only []; omega)
  obtain rfl : i = s.lg.length := by omega
  rw [take_length] at hsw hwl
  have hnx := next_ct s.dc s.rg hsw.rs (by omega)
  clear hsw hs1
  try refine runS ?_
  rw [decide_eq_true hN] at hnx
  skip
  refine W.mixA 8 [true, true, true, true, true, true, true, true, true, false, true, true, true, false, false] 13 [CsBk b s v] Tryz.mix (by kernel_rfl) rfl ?_
  skip
  repeat' (first | refine runS ?_ | refine al (fun _ => ?_) | refine WX.callQ rfl hnx rfl ?_ | refine WA.un ?_ | refine WA.backU ?_ | refine WA.back ?_ | refine WA.an ?_ ?_ | refine WA.nil ?_ | fail)
  all_goals
   skip
   skip
   rename_i b22
   refine WX.hp (H' := [[(b22, .cells (List.toArray [.int .i64 0, .int .i64 0, .int .i64 0]) 41 (0, 0))], hw, VcBk b12 deps, CsBk b s v, hv, R]) rfl ?_
   refine I.st ?_
   refine sGW [.int .i64 0, .int .i64 0, .int .i64 0] [.int .i64 (nextCt (clock :: s.lg.map (fun (e : Ent) => e.ct))), .int .i64 s.dc, .int .i64 s.rg] rfl rfl ?_
   skip
   repeat' (first | refine runS ?_ | refine lAN (t := 37) deps.enc deps.enc rfl ?_ | refine WX.callQ rfl hbe rfl ?_ | fail)
   skip
   refine W.hp (H' := [[(b22, .cells (List.toArray [.int .i64 (nextCt (clock :: s.lg.map (fun (e : Ent) => e.ct))), .int .i64 s.dc, .int .i64 s.rg]) 41 (0, 0))], hw, VcBk b12 deps, CsBk b s v, hv, R]) rfl ?_
   refine W.quiet Tryz.mix (by kernel_rfl) ?_
   skip
   repeat' (first | refine runS ?_ | refine WX.callQ rfl hcol rfl ?_ | refine WX.ix1' rfl rfl hj hj3 hat rfl ?_ | fail)
   refine W.mixA 8 (List.replicate 19 true ++ [false, false, false, true, true, true, false]) 25 [CsBk b s v, VcBk b12 deps, [(b22, .cells (List.toArray [.int .i64 (nextCt (clock :: s.lg.map (fun (e : Ent) => e.ct))), .int .i64 s.dc, .int .i64 s.rg]) 41 (0, 0))]] Tryz.mix (by kernel_rfl) rfl ?_
   skip
   repeat' (first | refine runS ?_ | refine al (fun _ => ?_) | refine lAN (t := 37) deps.enc deps.enc rfl ?_ | refine lAN (t := 41) [.int .i64 (nextCt (clock :: s.lg.map (fun (e : Ent) => e.ct))), .int .i64 s.dc, .int .i64 s.rg] [.int .i64 (nextCt (clock :: s.lg.map (fun (e : Ent) => e.ct))), .int .i64 s.dc, .int .i64 s.rg] rfl ?_ | refine WX.callQ rfl hpa rfl ?_ | refine WX.callQ rfl (merge_ct hs2.rs (by simp)) rfl ?_ | refine WX.lit (ys := [deps, pastV s.lg]) rfl rfl rfl rfl rfl rfl (by decide) rfl (fun v2 h2 hs2 => ?_) | refine bdN (t := 39) [.int .i64 s.dc, .int .i64 s.rg, .int .i64 ((colF s.rg s.lg).at s.dc.toNat + 1)] ?_ | refine bdN (t := 43) (s.entry key val dead deps clock cl op).enc ?_ | refine WA.un ?_ | refine WA.backU ?_ | refine WA.back ?_ | refine WA.an ?_ ?_ | refine WA.nil ?_ | fail)
  all_goals
   skip
   skip
   rename_i b25
   refine I.st ?_
   refine sGW Ent.z.enc (s.entry key val dead deps clock cl op).enc rfl rfl ?_
   skip
   repeat' (first | refine runS ?_ | refine lAN (t := 43) (s.entry key val dead deps clock cl op).enc (s.entry key val dead deps clock cl op).enc rfl ?_ | refine WX.callQ rfl hen rfl ?_ | fail)
   exact D.fin2 [CsBk b s v, hv] _ rfl rfl rfl ⟨rfl, v, hv, rfl, hs⟩
 rw [decide_eq_true c5] at hen
 have e0 : s.putS key val dead deps clock cl op = ((s.len + 1, 0), (s.push (s.entry key val dead deps clock cl op)).settle) := by unfold CS.putS; rw [if_neg (fun h => h c1), if_neg c2, if_neg (fun h => h c3), if_neg hn4, if_neg (fun h => h c5)]
 rw [e0]
 have hse := fun v' => settle_ct (s := s.push (s.entry key val dead deps clock cl op)) ok.co b v'
 have hl1 : ((s.lg ++ [s.entry key val dead deps clock cl op]).length : Int) = s.len + 1 := by rw [length_append, hlen]; rfl
 skip
 refine Ct.mk' func68 rfl rfl rfl (fun g R => ?_)
 try simp only [ca]
 simp only [na]
 skip
 repeat' (first | refine runS ?_ | refine bx rfl (fun _ => ?_) | refine WX.callQ rfl hih rfl ?_ | refine WX.callQ rfl hfo rfl ?_ | fail)
 rename_i b12
 refine I.bs ?_
 refine WX.lit (ys := [clock]) rfl rfl rfl rfl rfl rfl (by decide) rfl (fun v1 h1 hs1 => ?_)
 skip
 try refine runS ?_
 refine W.hp (H' := [h1, VcBk b12 deps, CsBk b s v, hv, R]) rfl ?_
 refine W.loop (α := Nat × Value × Hp) (fun x => x.1 ≤ s.lg.length ∧ IsSl 3 (clock :: (s.lg.take x.1).map (·.ct)) x.2.1 x.2.2) (fun x => [(0, .pointer (some ⟨b, 0, none⟩)), (1, .string key), (2, .string val), (3, .bool dead), (6, .int .i64 cl), (7, .int .i64 op), (12, .pointer (some ⟨b12, 0, none⟩)), (19, x.2.1), (41, v), (42, .int .i64 (s.lg.length : Int)), (43, .int .i64 (x.1 : Int))])
  (fun x => [x.2.2, VcBk b12 deps, CsBk b s v, hv, R]) (fun x => s.lg.length - x.1) (0, v1, h1) ⟨Nat.zero_le _, hs1⟩ (by repeat (first | exact Fsub.nil | refine Fsub.cons rfl ?_)) (Hsub.of_picks inferInstance) ?_
 rintro ⟨i, w, hw⟩ ⟨hi, hsw⟩
 simp only [] at hi hsw ⊢
 have hwl : (clock :: (s.lg.take i).map (·.ct)).length ≤ 257 := by rw [length_cons, length_map, length_take]; omega
 by_cases hlt : i < s.lg.length
 ·obtain ⟨x, hx⟩ : ∃ x, s.lg[i]? = some x := ⟨_, List.getElem?_eq_getElem hlt⟩
  repeat' (first | refine runS ?_ | refine al (fun _ => ?_) | refine WX.loadEW rfl hr hx rfl rfl ?_ | refine sGW Ent.z.enc x.enc rfl rfl ?_ | fail)
  refine I.bs ?_
  refine WX.lit (ys := [x.ct]) rfl rfl rfl rfl rfl rfl (by decide) rfl (fun v2 h2 hs2 => ?_)
  skip
  refine WX.app rfl rfl hsw hs2.rs rfl rfl (by decide) (by simp only [length_cons, length_nil] at hwl ⊢; omega) rfl (fun v3 h3 hs3 => ?_)
  have hs3 : IsSl 3 (clock :: (s.lg.take (i + 1)).map (·.ct)) v3 h3 := by rw [take_add_one, hx, map_append]; exact hs3
  try refine runS ?_
  exact D.rd (i + 1, v3, h3) ⟨by simp only []; omega, hs3⟩ (by simp only []; omega)
 obtain rfl : i = s.lg.length := by omega
 rw [take_length] at hsw hwl
 have hnx := next_ct s.dc s.rg hsw.rs (by omega)
 clear hsw hs1
 try refine runS ?_
 rw [decide_eq_true hN] at hnx
 skip
 refine W.mixA 8 [true, true, true, true, true, true, true, true, true, false, true, true, true, false, false] 13 [CsBk b s v] Tryz.mix (by kernel_rfl) rfl ?_
 skip
 repeat' (first | refine runS ?_ | refine al (fun _ => ?_) | refine WX.callQ rfl hnx rfl ?_ | refine WA.un ?_ | refine WA.backU ?_ | refine WA.back ?_ | refine WA.an ?_ ?_ | refine WA.nil ?_ | fail)
 all_goals
  skip
  skip
  rename_i b22
  refine WX.hp (H' := [[(b22, .cells (List.toArray [.int .i64 0, .int .i64 0, .int .i64 0]) 41 (0, 0))], hw, VcBk b12 deps, CsBk b s v, hv, R]) rfl ?_
  refine I.st ?_
  refine sGW [.int .i64 0, .int .i64 0, .int .i64 0] [.int .i64 (nextCt (clock :: s.lg.map (fun (e : Ent) => e.ct))), .int .i64 s.dc, .int .i64 s.rg] rfl rfl ?_
  skip
  repeat' (first | refine runS ?_ | refine lAN (t := 37) deps.enc deps.enc rfl ?_ | refine WX.callQ rfl hbe rfl ?_ | fail)
  skip
  refine W.hp (H' := [[(b22, .cells (List.toArray [.int .i64 (nextCt (clock :: s.lg.map (fun (e : Ent) => e.ct))), .int .i64 s.dc, .int .i64 s.rg]) 41 (0, 0))], hw, VcBk b12 deps, CsBk b s v, hv, R]) rfl ?_
  refine W.quiet Tryz.mix (by kernel_rfl) ?_
  skip
  repeat' (first | refine runS ?_ | refine WX.callQ rfl hcol rfl ?_ | refine WX.ix1' rfl rfl hj hj3 hat rfl ?_ | fail)
  refine W.mixA 8 (List.replicate 19 true ++ [false, false, false, true, true, true, false]) 25 [CsBk b s v, VcBk b12 deps, [(b22, .cells (List.toArray [.int .i64 (nextCt (clock :: s.lg.map (fun (e : Ent) => e.ct))), .int .i64 s.dc, .int .i64 s.rg]) 41 (0, 0))]] Tryz.mix (by kernel_rfl) rfl ?_
  skip
  repeat' (first | refine runS ?_ | refine al (fun _ => ?_) | refine lAN (t := 37) deps.enc deps.enc rfl ?_ | refine lAN (t := 41) [.int .i64 (nextCt (clock :: s.lg.map (fun (e : Ent) => e.ct))), .int .i64 s.dc, .int .i64 s.rg] [.int .i64 (nextCt (clock :: s.lg.map (fun (e : Ent) => e.ct))), .int .i64 s.dc, .int .i64 s.rg] rfl ?_ | refine WX.callQ rfl hpa rfl ?_ | refine WX.callQ rfl (merge_ct hs2.rs (by simp)) rfl ?_ | refine WX.lit (ys := [deps, pastV s.lg]) rfl rfl rfl rfl rfl rfl (by decide) rfl (fun v2 h2 hs2 => ?_) | refine bdN (t := 39) [.int .i64 s.dc, .int .i64 s.rg, .int .i64 ((colF s.rg s.lg).at s.dc.toNat + 1)] ?_ | refine bdN (t := 43) (s.entry key val dead deps clock cl op).enc ?_ | refine WA.un ?_ | refine WA.backU ?_ | refine WA.back ?_ | refine WA.an ?_ ?_ | refine WA.nil ?_ | fail)
 all_goals
  skip
  skip
  rename_i b25
  refine I.st ?_
  refine sGW Ent.z.enc (s.entry key val dead deps clock cl op).enc rfl rfl ?_
  skip
  repeat' (first | refine runS ?_ | refine lAN (t := 43) (s.entry key val dead deps clock cl op).enc (s.entry key val dead deps clock cl op).enc rfl ?_ | refine WX.callQ rfl hen rfl ?_ | fail)
  refine W.mixN 8 [true, true, true, true, true, true, false, false] [CsBk b s v, EnBk b25 (s.entry key val dead deps clock cl op)] Tryz.mix (by kernel_rfl) ?_
  skip
  repeat' (first | refine runS ?_ | refine lAN (t := 43) (s.entry key val dead deps clock cl op).enc (s.entry key val dead deps clock cl op).enc rfl ?_ | fail)
  refine I.bs ?_
  refine WX.lit (ys := [s.entry key val dead deps clock cl op]) rfl rfl rfl rfl rfl rfl (by decide) rfl (fun v4 h4 hs4 => ?_)
  try refine runS ?_
  refine WX.app rfl rfl hs hs4.rs rfl rfl (by decide) (by simp only [length_cons, length_nil]; omega) rfl (fun v3 h3 hs3 => ?_)
  obtain ⟨p3, c3', e3⟩ := hs3.rs.len
  subst e3
  try refine runS ?_
  refine I.st ?_
  refine stN (s.cells v) (CS.cells (s.push (s.entry key val dead deps clock cl op)) (.slice p3 (s.lg ++ [s.entry key val dead deps clock cl op]).length c3')) rfl rfl ?_
  try refine runS ?_
  refine WX.call rfl (hse (.slice p3 (s.lg ++ [s.entry key val dead deps clock cl op]).length c3')) rfl ?_
  rintro _ _ ⟨rfl, rfl⟩
  simp only [ca, na]
  try refine runS ?_
  exact D.fin2 [CsBk b (s.push (s.entry key val dead deps clock cl op)).settle (.slice p3 (s.lg ++ [s.entry key val dead deps clock cl op]).length c3'), h3] _ rfl rfl rfl ⟨by rw [hl1], _, h3, rfl, by rw [push_lg]; exact hs3⟩
abbrev LgBk (b cb : Nat) (dc rg nd : Int) (d w : Nat) (up : Bool) : Hp := [(b, .cells (List.toArray [.pointer (some ⟨cb, 0, none⟩), .int .i64 dc, .int .i64 rg, .int .i64 nd, .pointer (some ⟨d, 0, none⟩), .pointer (some ⟨w, 0, none⟩), .bool up]) 52 (0, 0))]
theorem lup_ct (b cb : Nat) (dc rg nd : Int) (d w : Nat) (up : Bool) : Ct prog 22 [.pointer (some ⟨b, 0, none⟩)] [LgBk b cb dc rg nd d w up] (fun r H' => r = .bool up ∧ H' = [LgBk b cb dc rg nd d w up]) := by
 refine Ct.mk' func22 rfl rfl rfl (fun g R => ?_)
 try simp only [ca]
 simp only [na]
 try refine runS ?_
 exact D.fin1 [LgBk b cb dc rg nd d w up] _ rfl rfl ⟨rfl, rfl⟩
theorem ltorn_ct (b cb : Nat) (dc rg nd : Int) (d w : Nat) (up : Bool) (seg torn : Int) : Ct prog 31 [.pointer (some ⟨b, 0, none⟩)] [LgBk b cb dc rg nd d w up, WBk w d seg torn] (fun r H' => r = .int .i64 torn ∧ H' = [LgBk b cb dc rg nd d w up, WBk w d seg torn]) := by
 have ht : Ct prog 72 [.pointer (some ⟨w, 0, none⟩)] [WBk w d seg torn] (fun r H' => r = .int .i64 torn ∧ H' = [WBk w d seg torn]) := by
  refine Ct.mk' func72 rfl rfl rfl (fun g R => ?_)
  try simp only [ca]
  simp only [na]
  try refine runS ?_
  exact D.fin1 [WBk w d seg torn] _ rfl rfl ⟨rfl, rfl⟩
 refine Ct.mk' func31 rfl rfl rfl (fun g R => ?_)
 try simp only [ca]
 simp only [na]
 repeat' (first | refine runS ?_ | refine WX.callQ rfl ht rfl ?_ | fail)
 exact D.fin1 [LgBk b cb dc rg nd d w up, WBk w d seg torn] _ rfl rfl ⟨rfl, rfl⟩
def mayN (l : List Lf) : Int := if roomB l 1 = true then 0 else 51
theorem lmay_ct {l : List Lf} (ok : LOk l) (b cb : Nat) (dc rg nd : Int) {d w : Nat} {seg torn : Int} {hd : Hp} (hdk : IsDk (dk l) d hd) : Ct prog 65 [.pointer (some ⟨b, 0, none⟩)] [LgBk b cb dc rg nd d w true, WBk w d seg torn, hd] (fun r H' => r = .int .i64 (mayN l) ∧ H' = [LgBk b cb dc rg nd d w true, WBk w d seg torn, hd]) := by
 have hrm := room_ct ok hdk (w := w) (seg := seg) (torn := torn) 1
 unfold mayN
 refine Ct.mk' func65 rfl rfl rfl (fun g R => ?_)
 try simp only [ca]
 simp only [na]
 cases hr : roomB l 1 with
 | true =>
  rw [hr] at hrm
  repeat' (first | refine runS ?_ | refine WX.callQ rfl hrm rfl ?_ | fail)
  exact D.fin1 [LgBk b cb dc rg nd d w true, WBk w d seg torn, hd] _ rfl rfl ⟨rfl, rfl⟩
 | false =>
  rw [hr] at hrm
  repeat' (first | refine runS ?_ | refine WX.callQ rfl hrm rfl ?_ | fail)
  exact D.fin1 [LgBk b cb dc rg nd d w true, WBk w d seg torn, hd] _ rfl rfl ⟨rfl, rfl⟩
theorem lmayD_ct (b cb : Nat) (dc rg nd : Int) (d w : Nat) : Ct prog 65 [.pointer (some ⟨b, 0, none⟩)] [LgBk b cb dc rg nd d w false] (fun r H' => r = .int .i64 52 ∧ H' = [LgBk b cb dc rg nd d w false]) := by
 refine Ct.mk' func65 rfl rfl rfl (fun g R => ?_)
 try simp only [ca]
 simp only [na]
 try refine runS ?_
 exact D.fin1 [LgBk b cb dc rg nd d w false] _ rfl rfl ⟨rfl, rfl⟩
def grownL (l : List Lf) (c : CS) (was : Int) : List Lf := if was < c.len then (ladd1 l (recW (c.lg.getD was.toNat Ent.z))).1 else l
theorem lgrown_ct {l : List Lf} (ok : LOk l) (b cb : Nat) (dc rg nd : Int) {d w : Nat} {torn : Int} {hd : Hp} (hdk : IsDk (dk l) d hd) {c : CS} (okc : CsOk c) {v : Value} {hv : Hp} (hs : Rs c.lg v hv) {was : Int} (h0 : 0 ≤ was) (h1 : was ≤ 1000) :
  Ct prog 67 [.pointer (some ⟨b, 0, none⟩), .int .i64 was] [LgBk b cb dc rg nd d w true, CsBk cb c v, hv, WBk w d (lastN l) torn, hd]
   (fun r H' => r = .tuple #[] ∧ ∃ hd', H' = [LgBk b cb dc rg nd d w true, CsBk cb c v, hv, WBk w d (lastN (grownL l c was)) torn, hd'] ∧ IsDk (dk (grownL l c was)) d hd') := by
 have hll := okc.len
 have hlen : c.len = (c.lg.length : Int) := rfl
 have hat := cat_ct c cb hs (by omega) (was + 1) (by omega)
 unfold grownL
 by_cases hw : was < c.len
 ·rw [if_pos hw]
  rw [if_pos (show 1 ≤ was + 1 ∧ was + 1 ≤ c.len by omega), decide_eq_true (show 1 ≤ was + 1 ∧ was + 1 ≤ c.len by omega), show (was + 1).toNat - 1 = was.toNat by omega] at hat
  obtain ⟨e, he⟩ : ∃ e, c.lg.getD was.toNat Ent.z = e := ⟨_, rfl⟩
  have heR : EntR e := by
   have hlt : was.toNat < c.lg.length := by omega
   rw [← he, getD_eq_getElem?_getD, List.getElem?_eq_getElem hlt]
   exact okc.es _ (getElem_mem hlt)
  rw [he] at hat ⊢
  refine Ct.mk' func67 rfl rfl rfl (fun g R => ?_)
  try simp only [ca]
  simp only [na]
  repeat' (first | refine runS ?_ | refine al (fun _ => ?_) | refine WX.callQ rfl hat rfl ?_ | refine sGW Ent.z.enc e.enc rfl rfl ?_ | fail)
  rename_i b4
  refine W.mixN 8 [true, true, true, true, true, true, false] [LgBk b cb dc rg nd d w true, EnBk b4 e] Tryz.mix (by kernel_rfl) ?_
  repeat' (first | refine runS ?_ | refine lAN (t := 43) e.enc e.enc rfl ?_ | refine bdN (t := 108) (recW e).enc ?_ | fail)
  refine I.bs ?_
  refine WX.lit (ys := [recW e]) rfl rfl rfl rfl rfl rfl (by decide) rfl (fun v2 h2 hs2 => ?_)
  try refine runS ?_
  have hadd := add_ct ok hdk hs2.rs (by simp) (fun r hr => by
   rw [mem_singleton.1 hr]
   have hk := heR.key; have hv := heR.val
   show e.key.data.toList.length + e.val.data.toList.length ≤ 1073741824
   rw [show e.key.data.toList.length = e.key.size from Array.length_toList, show e.val.data.toList.length = e.val.size from Array.length_toList]
   omega) (w := w) (torn := torn)
  rw [ladd_1] at hadd
  refine WX.call rfl hadd rfl ?_
  rintro _ _ ⟨hd', rfl, rfl, hdk'⟩
  simp only [ca, na]
  try refine runS ?_
  exact D.finE [LgBk b cb dc rg nd d w true, CsBk cb c v, hv, WBk w d (lastN (ladd1 l (recW e)).1) torn, hd'] _ rfl ⟨rfl, hd', rfl, hdk'⟩
 ·rw [if_neg hw]
  rw [if_neg (show ¬ (1 ≤ was + 1 ∧ was + 1 ≤ c.len) by omega), decide_eq_false (show ¬ (1 ≤ was + 1 ∧ was + 1 ≤ c.len) by omega)] at hat
  refine Ct.mk' func67 rfl rfl rfl (fun g R => ?_)
  try simp only [ca]
  simp only [na]
  repeat' (first | refine runS ?_ | refine al (fun _ => ?_) | refine WX.callQ rfl hat rfl ?_ | refine sGW Ent.z.enc Ent.z.enc rfl rfl ?_ | fail)
  exact D.finE [LgBk b cb dc rg nd d w true, CsBk cb c v, hv, WBk w d (lastN l) torn, hd] _ rfl ⟨rfl, hd, rfl, hdk⟩
end Go.Proofs.YtejfahjgfedliaaGreat
