/-
  Texts of one road, one behind the other.
-/
import Derived.Test.YtejfahjgfedliaaGreatQEd
import Derived.Test.YtejfahjgfedliaaGreatQEb
import Derived.Test.YtejfahjgfedliaaGreatQEc
import Derived.ChangeShapes
set_option linter.unusedVariables false
set_option linter.unusedSimpArgs false
namespace Go.Proofs.YtejfahjgfedliaaGreat
open Go Go.Sl Go.Proofs.Tryz
instance : Enc V9 := ⟨9, V9.enc, fun _ => rfl, fun _ => rfl, by decide⟩
instance : Enc Ent := ⟨20, Ent.enc, fun _ => rfl, fun _ => rfl, by decide⟩
abbrev VcBk (b : Nat) (v : V9) : Hp := [(b, .cells (List.toArray v.enc) 37 (0, 0))]
abbrev ClBk (b : Nat) (v : V3) : Hp := [(b, .cells (List.toArray v.enc) 163 (0, 0))]
abbrev EnBk (b : Nat) (e : Ent) : Hp := [(b, .cells (List.toArray e.enc) 43 (0, 0))]
theorem chainD_ct (dc rg : Int) : Ct prog 173 [.int .i64 dc, .int .i64 rg] [] (fun r H' => r = .bool (decide (ChainD dc rg)) ∧ H' = []) := by
 refine Ct.mk' func173 rfl rfl rfl (fun g R => ?_)
 try simp only [ca]
 simp only [na]
 by_cases h0 : 0 ≤ dc
 ·by_cases h1 : dc < 3
  ·by_cases h2 : 0 ≤ rg
   ·try refine run ?_
    exact D.fin1 [] _ rfl rfl ⟨by simp [h0, h1, h2], rfl⟩
   ·try refine run ?_
    exact D.fin1 [] _ rfl rfl ⟨by simp [h0, h1, h2], rfl⟩
  ·try refine run ?_
   exact D.fin1 [] _ rfl rfl ⟨by simp [h0, h1], rfl⟩
 ·try refine run ?_
  exact D.fin1 [] _ rfl rfl ⟨by simp [h0], rfl⟩
theorem rightS_ct (ct dc rg : Int) : Ct prog 174 [.agg (List.toArray [.int .i64 ct, .int .i64 dc, .int .i64 rg])] [] (fun r H' => r = .bool (decide (RightS ct dc rg)) ∧ H' = []) := by
 refine Ct.mk' func174 rfl rfl rfl (fun g R => ?_)
 try simp only [ca]
 simp only [na]
 by_cases h0 : 1 ≤ ct
 ·by_cases h1 : ct ≤ 1099511627776
  ·by_cases h2 : 0 ≤ dc
   ·by_cases h3 : dc < 3
    ·by_cases h4 : 0 ≤ rg
     ·repeat' (first | refine run ?_ | refine bx rfl (fun _ => ?_) | fail)
      exact D.fin1 [] _ rfl rfl ⟨by simp [h0, h1, h2, h3, h4], rfl⟩
     ·repeat' (first | refine run ?_ | refine bx rfl (fun _ => ?_) | fail)
      exact D.fin1 [] _ rfl rfl ⟨by simp [h0, h1, h2, h3, h4], rfl⟩
    ·repeat' (first | refine run ?_ | refine bx rfl (fun _ => ?_) | fail)
     exact D.fin1 [] _ rfl rfl ⟨by simp [h0, h1, h2, h3], rfl⟩
   ·repeat' (first | refine run ?_ | refine bx rfl (fun _ => ?_) | fail)
    exact D.fin1 [] _ rfl rfl ⟨by simp [h0, h1, h2], rfl⟩
  ·repeat' (first | refine run ?_ | refine bx rfl (fun _ => ?_) | fail)
   exact D.fin1 [] _ rfl rfl ⟨by simp [h0, h1], rfl⟩
 ·repeat' (first | refine run ?_ | refine bx rfl (fun _ => ?_) | fail)
  exact D.fin1 [] _ rfl rfl ⟨by simp [h0], rfl⟩
def V9.row (v : V9) (d : Nat) : List Value := [.int .i64 (v.at (3 * d)), .int .i64 (v.at (3 * d + 1)), .int .i64 (v.at (3 * d + 2))]
theorem V9.row_is (v : V9) {d : Nat} (h : d < 3) : (v.enc.drop (d * 3)).take 3 = v.row d := by
 rcases (by omega : d = 0 ∨ d = 1 ∨ d = 2) with rfl | rfl | rfl <;> rfl
theorem V9.row_at (v : V9) (d : Nat) {r : Nat} (h : r < 3) : (v.row d)[r]? = some (.int .i64 (v.at (3 * d + r))) := by
 rcases (by omega : r = 0 ∨ r = 1 ∨ r = 2) with rfl | rfl | rfl <;> rfl
theorem rightV_ct (v : V9) : Ct prog 175 [.agg (List.toArray v.enc)] [] (fun r H' => r = .bool (decide (RightV v)) ∧ H' = []) := by
 refine Ct.mk' func175 rfl rfl rfl (fun g R => ?_)
 try simp only [ca]
 simp only [na]
 repeat' (first | refine run ?_ | refine bx rfl (fun _ => ?_) | fail)
 refine W.loop (α := Nat) (fun d => d ≤ 3 ∧ ∀ i, i < 3 * d → 0 ≤ v.at i ∧ v.at i ≤ MC) (fun d => [(7, .agg (List.toArray v.enc)), (8, .int .i64 (d : Int))]) (fun _ => [R]) (fun d => 3 - d) 0 ⟨Nat.zero_le _, fun i hi => absurd hi (Nat.not_lt_zero _)⟩ (by repeat (first | exact Fsub.nil | refine Fsub.cons rfl ?_)) (Hsub.of_picks inferInstance) ?_
 rintro d ⟨hd, hall⟩
 by_cases hlt : d < 3
 ·have hrow := v.row_is hlt
  try refine run ?_
  refine I.ixv ?_
  refine WX.ixA rfl rfl hlt hrow rfl ?_
  repeat' (first | refine run ?_ | refine al (fun _ => ?_) | fail)
  refine W.loop (α := Nat) (fun r => r ≤ 3 ∧ ∀ i, i < 3 * d + r → 0 ≤ v.at i ∧ v.at i ≤ MC) (fun r => [(7, .agg (List.toArray v.enc)), (8, .int .i64 (d : Int)), (11, .agg (List.toArray (v.row d))), (12, .int .i64 (r : Int))]) (fun _ => [R]) (fun r => 3 - r) 0 ⟨Nat.zero_le _, hall⟩ (by repeat (first | exact Fsub.nil | refine Fsub.cons rfl ?_)) (Hsub.of_picks inferInstance) ?_
  rintro r ⟨hr, hall2⟩
  by_cases hlr : r < 3
  ·have hel := v.row_at d hlr
   generalize hx : v.at (3 * d + r) = x at hel
   by_cases hg : 0 ≤ x ∧ x ≤ 1099511627776
   ·obtain ⟨g1, g2⟩ := hg
    try refine run ?_
    refine I.ixv ?_
    refine WX.ix1 rfl rfl hlr hel rfl ?_
    try refine run ?_
    refine D.rd (r + 1) ⟨by omega, fun i hi => ?_⟩ (by omega)
    rcases Nat.lt_or_ge i (3 * d + r) with h | h
    ·exact hall2 i h
    ·obtain rfl : i = 3 * d + r := by omega
     rw [hx]; exact ⟨g1, g2⟩
   ·have hno : ¬ RightV v := fun h => hg (by have := h (3 * d + r) (by omega); rw [hx] at this; exact this)
    by_cases g1 : x < 0
    ·try refine run ?_
     refine I.ixv ?_
     refine WX.ix1 rfl rfl hlr hel rfl ?_
     try refine run ?_
     exact D.fin1 [] _ rfl rfl ⟨by rw [decide_eq_false hno], rfl⟩
    ·have g2 : 1099511627776 < x := by omega
     try refine run ?_
     refine I.ixv ?_
     refine WX.ix1 rfl rfl hlr hel rfl ?_
     try refine run ?_
     exact D.fin1 [] _ rfl rfl ⟨by rw [decide_eq_false hno], rfl⟩
  ·obtain rfl : r = 3 := by omega
   try refine run ?_
   exact D.rd (d + 1) ⟨by omega, fun i hi => hall2 i (by omega)⟩ (by omega)
 ·obtain rfl : d = 3 := by omega
  try refine run ?_
  exact D.fin1 [] _ rfl rfl ⟨by rw [decide_eq_true (show RightV v from hall)], rfl⟩
end Go.Proofs.YtejfahjgfedliaaGreat

namespace Go.Proofs.YtejfahjgfedliaaGreat
open Go Go.Sl Go.Proofs.Tryz List
theorem mergeV_take {vs : List V9} {i : Nat} {x : V9} (h : vs[i]? = some x) : mergeV (vs.take (i + 1)) = merge2 (mergeV (vs.take i)) x := by
 unfold mergeV
 rw [take_add_one, h, foldl_append]; rfl
set_option maxRecDepth 4000 in
theorem merge_ct {vs : List V9} {u : Value} {h : Hp} (hs : Rs vs u h) (hl : vs.length ≤ 1000000) :
  Ct prog 123 [u] [h] (fun r H' => r = .agg (List.toArray (mergeV vs).enc) ∧ H' = [h]) := by
 refine Ct.mk' func123 rfl rfl rfl (fun g R => ?_)
 try simp only [ca]
 simp only [na]
 repeat' (first | refine run ?_ | refine al (fun _ => ?_) | fail)
 rename_i b2 b3
 refine W.hp (H' := [VcBk b3 (mergeV (vs.take 0)), VcBk b2 V9.z, h, R]) rfl ?_
 refine W.loop (α := Nat) (fun i => i ≤ vs.length) (fun i => [(2, .pointer (some ⟨b2, 0, none⟩)), (3, .pointer (some ⟨b3, 0, none⟩)), (8, u), (9, .int .i64 (vs.length : Int)), (10, .int .i64 (i : Int))]) (fun i => [VcBk b3 (mergeV (vs.take i)), VcBk b2 V9.z, h, R]) (fun i => vs.length - i) 0 (Nat.zero_le _) (by repeat (first | exact Fsub.nil | refine Fsub.cons rfl ?_)) (Hsub.of_picks inferInstance) ?_
 intro i hi
 by_cases hlt : i < vs.length
 ·obtain ⟨x, hx⟩ : ∃ x, vs[i]? = some x := ⟨_, List.getElem?_eq_getElem hlt⟩
  have hnx := mergeV_take hx
  generalize mergeV (vs.take i) = o at hnx ⊢
  repeat' (first | refine run ?_ | refine al (fun _ => ?_) | fail)
  rename_i b5
  refine W.hp (H' := [VcBk b5 x, VcBk b3 (mergeK o x (3 * 0)), VcBk b2 V9.z, h, R]) (by rw [mergeK_0]; rfl) ?_
  refine W.loop (α := Nat) (fun d => d ≤ 3) (fun d => [(2, .pointer (some ⟨b2, 0, none⟩)), (3, .pointer (some ⟨b3, 0, none⟩)), (5, .pointer (some ⟨b5, 0, none⟩)), (8, u), (9, .int .i64 (vs.length : Int)), (10, .int .i64 (i : Int)), (14, .int .i64 (d : Int))]) (fun d => [VcBk b5 x, VcBk b3 (mergeK o x (3 * d)), VcBk b2 V9.z, h, R]) (fun d => 3 - d) 0 (Nat.zero_le _) (by repeat (first | exact Fsub.nil | refine Fsub.cons rfl ?_)) (Hsub.of_picks inferInstance) ?_
  intro d hd
  by_cases hld : d < 3
  ·try refine run ?_
   refine W.loop (α := Nat) (fun r => r ≤ 3) (fun r => [(2, .pointer (some ⟨b2, 0, none⟩)), (3, .pointer (some ⟨b3, 0, none⟩)), (5, .pointer (some ⟨b5, 0, none⟩)), (6, .int .i64 (d : Int)), (8, u), (9, .int .i64 (vs.length : Int)), (10, .int .i64 (i : Int)), (14, .int .i64 (d : Int)), (17, .int .i64 (r : Int))]) (fun r => [VcBk b5 x, VcBk b3 (mergeK o x (3 * d + r)), VcBk b2 V9.z, h, R]) (fun r => 3 - r) 0 (Nat.zero_le _) (by repeat (first | exact Fsub.nil | refine Fsub.cons rfl ?_)) (Hsub.of_picks inferInstance) ?_
   intro r hr
   by_cases hlr : r < 3
   ·have hk : 3 * d + r < 9 := by omega
    have e0 : 0 + ((d : Nat) : Int).toNat * 3 + ((r : Nat) : Int).toNat * 1 = 3 * d + r := by show 0 + d * 3 + r * 1 = _; omega
    have g1 : (mergeK o x (3 * d + r)).enc[0 + ((d : Nat) : Int).toNat * 3 + ((r : Nat) : Int).toNat * 1]? = some (.int .i64 (o.at (3 * d + r))) := by rw [e0, V9.enc_at _ hk, mergeK_at _ _ hk]
    have g2 : x.enc[0 + ((d : Nat) : Int).toNat * 3 + ((r : Nat) : Int).toNat * 1]? = some (.int .i64 (x.at (3 * d + r))) := by rw [e0, V9.enc_at _ hk]
    have g3 : (mergeK o x (3 * d + r)).enc.set (0 + ((d : Nat) : Int).toNat * 3 + ((r : Nat) : Int).toNat * 1) (.int .i64 (mx (o.at (3 * d + r)) (x.at (3 * d + r)))) = (mergeK o x (3 * d + (r + 1))).enc := by rw [e0, V9.enc_put _ hk, mergeK_put _ _ hk]; rfl
    have g4 : Nat.blt (0 + ((d : Nat) : Int).toNat * 3 + ((r : Nat) : Int).toNat * 1) (mergeK o x (3 * d + r)).enc.length = true := Nat.ble_eq_true_of_le (by rw [e0]; show 3 * d + r + 1 ≤ 9; omega)
    try refine run ?_
    refine W.mixN 8 (List.replicate 15 true) [VcBk b5 x, VcBk b3 (mergeK o x (3 * d + r))] Tryz.mix (by kernel_rfl) ?_
    repeat' (first | refine run ?_ | refine lN x.enc _ rfl ?_ (hc := g2) | refine lN (mergeK o x (3 * d + r)).enc _ rfl ?_ (hc := g1) | fail)
    refine I.st ?_
    refine stN (mergeK o x (3 * d + r)).enc (mergeK o x (3 * d + (r + 1))).enc rfl rfl ?_ (e := g3) (hb := g4)
    try refine run ?_
    exact D.rd (r + 1) (by omega) (by omega)
   ·obtain rfl : r = 3 := by omega
    try refine run ?_
    exact D.rd (d + 1) (by omega) (by omega)
  ·obtain rfl : d = 3 := by omega
   rw [show mergeK o x (3 * 3) = mergeV (vs.take (i + 1)) by rw [hnx]; rfl]
   try refine run ?_
   exact D.rd (i + 1) (by omega) (by omega)
 ·obtain rfl : i = vs.length := by omega
  rw [take_length]
  generalize mergeV vs = o
  try refine run ?_
  exact D.finR1 [h] _ rfl (.cellA rfl rfl .nil) ⟨rfl, rfl⟩
structure Dt where
 (dc rg sq : Int)
def Dt.enc (d : Dt) : List Value := [.int .i64 d.dc, .int .i64 d.rg, .int .i64 d.sq]
instance : Enc Dt := ⟨3, Dt.enc, fun _ => rfl, fun _ => rfl, by decide⟩
abbrev DtBk3 (b : Nat) (d : Dt) : Hp := [(b, .cells (List.toArray d.enc) 39 (0, 0))]
def withL (v : V9) (ds : List Dt) : V9 := ds.foldl (fun o d => withD o d.dc d.rg d.sq) v
theorem withL_take {v : V9} {ds : List Dt} {i : Nat} {x : Dt} (h : ds[i]? = some x) : withL v (ds.take (i + 1)) = withD (withL v (ds.take i)) x.dc x.rg x.sq := by
 unfold withL
 rw [take_add_one, h, foldl_append]; rfl
set_option maxRecDepth 4000 in
theorem with3_ct (v : V9) {ds : List Dt} {u : Value} {h : Hp} (hs : Rs ds u h) (hl : ds.length ≤ 1000000) :
  Ct prog 182 [.agg (List.toArray v.enc), u] [h] (fun r H' => r = .agg (List.toArray (withL v ds).enc) ∧ H' = [h]) := by
 refine Ct.mk' func182 rfl rfl rfl (fun g R => ?_)
 try simp only [ca]
 simp only [na]
 repeat' (first | refine run ?_ | refine bx rfl (fun _ => ?_) | refine al (fun _ => ?_) | fail)
 rename_i b2 b4
 refine W.hp (H' := [VcBk b4 V9.z, VcBk b2 (withL v (ds.take 0)), h, R]) rfl ?_
 refine W.loop (α := Nat) (fun i => i ≤ ds.length) (fun i => [(2, .pointer (some ⟨b2, 0, none⟩)), (4, .pointer (some ⟨b4, 0, none⟩)), (7, u), (8, .int .i64 (ds.length : Int)), (9, .int .i64 (i : Int))]) (fun i => [VcBk b2 (withL v (ds.take i)), VcBk b4 V9.z, h, R]) (fun i => ds.length - i) 0 (Nat.zero_le _) (by repeat (first | exact Fsub.nil | refine Fsub.cons rfl ?_)) (Hsub.of_picks inferInstance) ?_
 intro i hi
 by_cases hlt : i < ds.length
 ·obtain ⟨x, hx⟩ : ∃ x, ds[i]? = some x := ⟨_, List.getElem?_eq_getElem hlt⟩
  have hnx := withL_take (v := v) hx
  generalize withL v (ds.take i) = o at hnx ⊢
  have hch := chainD_ct x.dc x.rg
  by_cases hD : ChainD x.dc x.rg
  ·rw [decide_eq_true hD] at hch
   rw [show withD o x.dc x.rg x.sq = _ from if_pos hD] at hnx
   obtain ⟨c1, c2, c3, c4⟩ := hD
   have hk : x.dc.toNat * 3 + x.rg.toNat < 9 := by omega
   have e0 : 0 + x.dc.toNat * 3 + x.rg.toNat * 1 = x.dc.toNat * 3 + x.rg.toNat := by omega
   have g1 : o.enc[0 + x.dc.toNat * 3 + x.rg.toNat * 1]? = some (.int .i64 (o.at (x.dc.toNat * 3 + x.rg.toNat))) := by rw [e0, V9.enc_at _ hk]
   have g3 : o.enc.set (0 + x.dc.toNat * 3 + x.rg.toNat * 1) (.int .i64 (mx (o.at (x.dc.toNat * 3 + x.rg.toNat)) x.sq)) = (withL v (ds.take (i + 1))).enc := by rw [e0, V9.enc_put _ hk, hnx]
   have g4 : Nat.blt (0 + x.dc.toNat * 3 + x.rg.toNat * 1) o.enc.length = true := Nat.ble_eq_true_of_le (by rw [e0]; show x.dc.toNat * 3 + x.rg.toNat + 1 ≤ 9; omega)
   repeat' (first | refine run ?_ | refine al (fun _ => ?_) | refine WX.callQ rfl hch rfl ?_ | fail)
   rename_i b6
   refine W.mixN 8 (List.replicate 16 true) [DtBk3 b6 x, VcBk b2 o] Tryz.mix (by kernel_rfl) ?_
   repeat' (first | refine run ?_ | refine lN o.enc _ rfl ?_ (hc := g1) | fail)
   refine I.st ?_
   refine stN o.enc (withL v (ds.take (i + 1))).enc rfl rfl ?_ (e := g3) (hb := g4)
   try refine run ?_
   exact D.rd (i + 1) (by omega) (by omega)
  ·rw [decide_eq_false hD] at hch
   rw [show withD o x.dc x.rg x.sq = _ from if_neg hD] at hnx
   repeat' (first | refine run ?_ | refine al (fun _ => ?_) | refine WX.callQ rfl hch rfl ?_ | fail)
   rw [← hnx]
   exact D.rd (i + 1) (by omega) (by omega)
 ·obtain rfl : i = ds.length := by omega
  rw [take_length]
  generalize withL v ds = o
  try refine run ?_
  exact D.finR1 [h] _ rfl (.cellA rfl rfl .nil) ⟨rfl, rfl⟩
theorem pastM_take {es : List Ent} {i : Nat} {x : Ent} (h : es[i]? = some x) : pastM (es.take (i + 1)) = mergeV [pastM (es.take i), x.dp] := by
 unfold pastM
 rw [take_add_one, h, foldl_append]; rfl
def pastW (o : V9) (es : List Ent) : V9 := es.foldl (fun o e => withD o e.dc e.rg e.sq) o
theorem pastW_take {o : V9} {es : List Ent} {i : Nat} {x : Ent} (h : es[i]? = some x) : pastW o (es.take (i + 1)) = withL (pastW o (es.take i)) [⟨x.dc, x.rg, x.sq⟩] := by
 unfold pastW
 rw [take_add_one, h, foldl_append]; rfl
set_option maxRecDepth 4000 in
theorem past_ct {es : List Ent} {u : Value} {h : Hp} (hs : Rs es u h) (hl : es.length ≤ 1000000) :
  Ct prog 124 [u] [h] (fun r H' => r = .agg (List.toArray (pastV es).enc) ∧ H' = [h]) := by
 refine Ct.mk' func124 rfl rfl rfl (fun g R => ?_)
 try simp only [ca]
 simp only [na]
 repeat' (first | refine runS ?_ | refine al (fun _ => ?_) | fail)
 rename_i b2 b3
 refine W.hp (H' := [VcBk b3 (pastM (es.take 0)), VcBk b2 V9.z, h, R]) rfl ?_
 refine W.loop (α := Nat) (fun i => i ≤ es.length) (fun i => [(0, u), (2, .pointer (some ⟨b2, 0, none⟩)), (3, .pointer (some ⟨b3, 0, none⟩)), (8, u), (9, .int .i64 (es.length : Int)), (10, .int .i64 (i : Int))]) (fun i => [VcBk b3 (pastM (es.take i)), VcBk b2 V9.z, h, R]) (fun i => es.length - i) 0 (Nat.zero_le _) (by repeat (first | exact Fsub.nil | refine Fsub.cons rfl ?_)) (Hsub.of_picks inferInstance) ?_
 intro i hi
 by_cases hlt : i < es.length
 ·obtain ⟨x, hx⟩ : ∃ x, es[i]? = some x := ⟨_, List.getElem?_eq_getElem hlt⟩
  have hnx := pastM_take hx
  generalize pastM (es.take i) = o at hnx ⊢
  repeat' (first | refine runS ?_ | refine al (fun _ => ?_) | refine WX.loadEW rfl hs hx rfl rfl ?_ | refine lAN o.enc o.enc rfl ?_ | refine lAN x.enc x.dp.enc rfl ?_ | refine sGW Ent.z.enc x.enc rfl rfl ?_ | fail)
  refine I.bs ?_
  refine WX.lit (ys := [o, x.dp]) rfl rfl rfl rfl rfl rfl (by decide) rfl (fun v2 h2 hs2 => ?_)
  skip
  refine WX.callQ rfl (merge_ct hs2.rs (by simp)) rfl ?_
  rw [← hnx]
  repeat' (first | refine runS ?_ | refine sGW o.enc (pastM (es.take (i + 1))).enc rfl rfl ?_ | fail)
  exact D.rd (i + 1) (by omega) (by omega)
 ·obtain rfl : i = es.length := by omega
  rw [take_length]
  obtain ⟨o, ho⟩ : ∃ o, pastM es = o := ⟨_, rfl⟩
  have hfin : pastV es = pastW o es := by rw [← ho]; rfl
  rw [ho, hfin]
  try refine runS ?_
  refine W.hp (H' := [VcBk b3 (pastW o (es.take 0)), VcBk b2 V9.z, h, R]) rfl ?_
  refine W.loop (α := Nat) (fun i => i ≤ es.length) (fun i => [(2, .pointer (some ⟨b2, 0, none⟩)), (3, .pointer (some ⟨b3, 0, none⟩)), (20, u), (21, .int .i64 (es.length : Int)), (22, .int .i64 (i : Int))]) (fun i => [VcBk b3 (pastW o (es.take i)), VcBk b2 V9.z, h, R]) (fun i => es.length - i) 0 (Nat.zero_le _) (by repeat (first | exact Fsub.nil | refine Fsub.cons rfl ?_)) (Hsub.of_picks inferInstance) ?_
  clear ho hfin
  intro i hi
  by_cases hlt : i < es.length
  ·obtain ⟨x, hx⟩ : ∃ x, es[i]? = some x := ⟨_, List.getElem?_eq_getElem hlt⟩
   have hnx := pastW_take (o := o) hx
   generalize pastW o (es.take i) = o2 at hnx ⊢
   repeat' (first | refine runS ?_ | refine al (fun _ => ?_) | refine WX.loadEW rfl hs hx rfl rfl ?_ | refine lAN o2.enc o2.enc rfl ?_ | refine lAN x.enc (Dt.enc ⟨x.dc, x.rg, x.sq⟩) rfl ?_ | refine sGW Ent.z.enc x.enc rfl rfl ?_ | fail)
   refine I.bs ?_
   refine WX.lit (ys := [(⟨x.dc, x.rg, x.sq⟩ : Dt)]) rfl rfl rfl rfl rfl rfl (by decide) rfl (fun v2 h2 hs2 => ?_)
   skip
   refine WX.callQ rfl (with3_ct o2 hs2.rs (by simp)) rfl ?_
   rw [← hnx]
   repeat' (first | refine runS ?_ | refine sGW o2.enc (pastW o (es.take (i + 1))).enc rfl rfl ?_ | fail)
   exact D.rd (i + 1) (by omega) (by omega)
  ·obtain rfl : i = es.length := by omega
   rw [take_length]
   generalize pastW o es = o2
   repeat' (first | refine runS ?_ | refine lAN o2.enc o2.enc rfl ?_ | refine sGW V9.z.enc o2.enc rfl rfl ?_ | fail)
   exact D.finR1 [h] _ rfl (.cellA rfl rfl .nil) ⟨rfl, rfl⟩
def partK (v : V9) (rg : Nat) (k : Nat) : V3 := ⟨if 0 < k then v.at rg else 0, if 1 < k then v.at (3 + rg) else 0, if 2 < k then v.at (6 + rg) else 0⟩
theorem partK_put (v : V9) (rg : Nat) {k : Nat} (h : k < 3) : (partK v rg k).put k (v.at (3 * k + rg)) = partK v rg (k + 1) := by
 rcases (by omega : k = 0 ∨ k = 1 ∨ k = 2) with rfl | rfl | rfl
 ·simp [partK, V3.put]
 ·simp [partK, V3.put]
 ·simp [partK, V3.put]
set_option maxRecDepth 4000 in
theorem part_ct (v : V9) (rg : Int) :
  Ct prog 180 [.agg (List.toArray v.enc), .int .i64 rg] [] (fun r H' => r = .agg (List.toArray (partV v rg).enc) ∧ H' = []) := by
 refine Ct.mk' func180 rfl rfl rfl (fun g R => ?_)
 try simp only [ca]
 simp only [na]
 repeat' (first | refine runS ?_ | refine bx rfl (fun _ => ?_) | refine al (fun _ => ?_) | fail)
 rename_i b2 b4 b5
 by_cases hrg : 0 ≤ rg ∧ rg < 3
 ·obtain ⟨r1, r2⟩ := hrg
  rw [show partV v rg = partK v rg.toNat 3 by unfold partV; rw [if_pos ⟨r1, r2⟩]; simp [partK]]
  refine W.hp (H' := [ClBk b5 (partK v rg.toNat 0), ClBk b4 V3.z, VcBk b2 v, R]) rfl ?_
  refine W.loop (α := Nat) (fun k => k ≤ 3) (fun k => [(1, .int .i64 rg), (2, .pointer (some ⟨b2, 0, none⟩)), (4, .pointer (some ⟨b4, 0, none⟩)), (5, .pointer (some ⟨b5, 0, none⟩)), (7, .int .i64 (k : Int))]) (fun k => [ClBk b5 (partK v rg.toNat k), ClBk b4 V3.z, VcBk b2 v, R]) (fun k => 3 - k) 0 (Nat.zero_le _) (by repeat (first | exact Fsub.nil | refine Fsub.cons rfl ?_)) (Hsub.of_picks inferInstance) ?_
  intro k hk
  by_cases hlt : k < 3
  ·have hch := chainD_ct (k : Int) rg
   rw [decide_eq_true (show ChainD (k : Int) rg by refine ⟨?_, ?_, r1, r2⟩ <;> omega)] at hch
   have hb : 3 * k + rg.toNat < 9 := by omega
   have g1 : v.enc[0 + ((k : Nat) : Int).toNat * 3 + rg.toNat * 1]? = some (.int .i64 (v.at (3 * k + rg.toNat))) := by rw [show 0 + ((k : Nat) : Int).toNat * 3 + rg.toNat * 1 = 3 * k + rg.toNat by show 0 + k * 3 + rg.toNat * 1 = _; omega, V9.enc_at _ hb]
   have g3 : (partK v rg.toNat k).enc.set (0 + ((k : Nat) : Int).toNat * 1) (.int .i64 (v.at (3 * k + rg.toNat))) = (partK v rg.toNat (k + 1)).enc := by rw [show 0 + ((k : Nat) : Int).toNat * 1 = k by show 0 + k * 1 = k; omega, V3.enc_put _ hlt, partK_put _ _ hlt]
   have g4 : Nat.blt (0 + ((k : Nat) : Int).toNat * 1) (partK v rg.toNat k).enc.length = true := Nat.ble_eq_true_of_le (by show 0 + k * 1 + 1 ≤ 3; omega)
   repeat' (first | refine runS ?_ | refine WX.callQ rfl hch rfl ?_ | refine lN v.enc _ rfl ?_ (hc := g1) | fail)
   refine I.st ?_
   refine stN (partK v rg.toNat k).enc (partK v rg.toNat (k + 1)).enc rfl rfl ?_ (e := g3) (hb := g4)
   try refine runS ?_
   exact D.rd (k + 1) (by omega) (by omega)
  ·obtain rfl : k = 3 := by omega
   generalize partK v rg.toNat 3 = o
   repeat' (first | refine runS ?_ | refine lAN o.enc o.enc rfl ?_ | refine sGW V3.z.enc o.enc rfl rfl ?_ | fail)
   exact D.finR1 [] _ rfl (.cellA rfl rfl .nil) ⟨rfl, rfl⟩
 ·rw [show partV v rg = V3.z from if_neg hrg]
  refine W.hp (H' := [ClBk b5 V3.z, ClBk b4 V3.z, VcBk b2 v, R]) rfl ?_
  refine W.loop (α := Nat) (fun k => k ≤ 3) (fun k => [(1, .int .i64 rg), (2, .pointer (some ⟨b2, 0, none⟩)), (4, .pointer (some ⟨b4, 0, none⟩)), (5, .pointer (some ⟨b5, 0, none⟩)), (7, .int .i64 (k : Int))]) (fun k => [ClBk b5 V3.z, ClBk b4 V3.z, VcBk b2 v, R]) (fun k => 3 - k) 0 (Nat.zero_le _) (by repeat (first | exact Fsub.nil | refine Fsub.cons rfl ?_)) (Hsub.of_picks inferInstance) ?_
  intro k hk
  by_cases hlt : k < 3
  ·have hch := chainD_ct (k : Int) rg
   rw [decide_eq_false (show ¬ ChainD (k : Int) rg from fun h => hrg h.2.2)] at hch
   repeat' (first | refine runS ?_ | refine WX.callQ rfl hch rfl ?_ | fail)
   exact D.rd (k + 1) (by omega) (by omega)
  ·obtain rfl : k = 3 := by omega
   repeat' (first | refine runS ?_ | refine lAN V3.z.enc V3.z.enc rfl ?_ | refine sGW V3.z.enc V3.z.enc rfl rfl ?_ | fail)
   exact D.finR1 [] _ rfl (.cellA rfl rfl .nil) ⟨rfl, rfl⟩
theorem covC_iff (a b : V3) : CovC a b ↔ ∀ i, i < 3 → b.at i ≤ a.at i := by
 constructor
 ·rintro ⟨h1, h2, h3⟩ i hi
  rcases (by omega : i = 0 ∨ i = 1 ∨ i = 2) with rfl | rfl | rfl
  ·exact h1
  ·exact h2
  ·exact h3
 ·intro h
  exact ⟨h 0 (by decide), h 1 (by decide), h 2 (by decide)⟩
theorem covC_ct (a b : V3) :
  Ct prog 179 [.agg (List.toArray a.enc), .agg (List.toArray b.enc)] [] (fun r H' => r = .bool (decide (CovC a b)) ∧ H' = []) := by
 have hiff := covC_iff a b
 refine Ct.mk' func179 rfl rfl rfl (fun g R => ?_)
 try simp only [ca]
 simp only [na]
 repeat' (first | refine runS ?_ | refine bx rfl (fun _ => ?_) | fail)
 rename_i b2 b3
 refine W.hp (H' := [ClBk b3 b, ClBk b2 a, R]) rfl ?_
 refine W.loop (α := Nat) (fun k => k ≤ 3 ∧ ∀ i, i < k → b.at i ≤ a.at i) (fun k => [(2, .pointer (some ⟨b2, 0, none⟩)), (3, .pointer (some ⟨b3, 0, none⟩)), (6, .int .i64 (k : Int))]) (fun k => [ClBk b3 b, ClBk b2 a, R]) (fun k => 3 - k) 0 ⟨Nat.zero_le _, fun i hi => absurd hi (Nat.not_lt_zero _)⟩ (by repeat (first | exact Fsub.nil | refine Fsub.cons rfl ?_)) (Hsub.of_picks inferInstance) ?_
 rintro k ⟨hk, hall⟩
 by_cases hlt : k < 3
 ·have g1 : a.enc[0 + ((k : Nat) : Int).toNat * 1]? = some (.int .i64 (a.at k)) := by rw [show 0 + ((k : Nat) : Int).toNat * 1 = k by show 0 + k * 1 = k; omega, V3.enc_at _ hlt]
  have g2 : b.enc[0 + ((k : Nat) : Int).toNat * 1]? = some (.int .i64 (b.at k)) := by rw [show 0 + ((k : Nat) : Int).toNat * 1 = k by show 0 + k * 1 = k; omega, V3.enc_at _ hlt]
  by_cases hc : b.at k ≤ a.at k
  ·try refine runS ?_
   refine W.quiet Tryz.mix (by kernel_rfl) ?_
   repeat' (first | refine runS ?_ | refine lN a.enc _ rfl ?_ (hc := g1) | refine lN b.enc _ rfl ?_ (hc := g2) | fail)
   refine D.rd (k + 1) ⟨by omega, fun i hi => ?_⟩ (by omega)
   rcases Nat.lt_or_ge i k with h | h
   ·exact hall i h
   ·obtain rfl : i = k := by omega
    exact hc
  ·have hno : ¬ CovC a b := fun h => hc (hiff.1 h k hlt)
   try refine runS ?_
   refine W.quiet Tryz.mix (by kernel_rfl) ?_
   repeat' (first | refine runS ?_ | refine lN a.enc _ rfl ?_ (hc := g1) | refine lN b.enc _ rfl ?_ (hc := g2) | fail)
   exact D.fin1 [] _ rfl rfl ⟨by rw [decide_eq_false hno], rfl⟩
 ·obtain rfl : k = 3 := by omega
  try refine runS ?_
  exact D.fin1 [] _ rfl rfl ⟨by rw [decide_eq_true (hiff.2 hall)], rfl⟩
theorem colF_take {rg : Int} {es : List Ent} {i : Nat} {x : Ent} (h : es[i]? = some x) : colF rg (es.take (i + 1)) = colStep rg (colF rg (es.take i)) x := by
 rw [take_add_one, h]; exact colF_snoc rg _ x
set_option maxRecDepth 4000 in
theorem column_ct (rg : Int) {es : List Ent} {u : Value} {h : Hp} (hs : Rs es u h) (hl : es.length ≤ 1000000) :
  Ct prog 181 [.int .i64 rg, u] [h] (fun r H' => r = .agg (List.toArray (colF rg es).enc) ∧ H' = [h]) := by
 refine Ct.mk' func181 rfl rfl rfl (fun g R => ?_)
 try simp only [ca]
 simp only [na]
 repeat' (first | refine runS ?_ | refine al (fun _ => ?_) | fail)
 rename_i b4 b5
 refine W.hp (H' := [ClBk b5 (colF rg (es.take 0)), ClBk b4 V3.z, h, R]) rfl ?_
 refine W.loop (α := Nat) (fun i => i ≤ es.length) (fun i => [(0, .int .i64 rg), (4, .pointer (some ⟨b4, 0, none⟩)), (5, .pointer (some ⟨b5, 0, none⟩)), (8, u), (9, .int .i64 (es.length : Int)), (10, .int .i64 (i : Int))]) (fun i => [ClBk b5 (colF rg (es.take i)), ClBk b4 V3.z, h, R]) (fun i => es.length - i) 0 (Nat.zero_le _) (by repeat (first | exact Fsub.nil | refine Fsub.cons rfl ?_)) (Hsub.of_picks inferInstance) ?_
 intro i hi
 by_cases hlt : i < es.length
 ·obtain ⟨x, hx⟩ : ∃ x, es[i]? = some x := ⟨_, List.getElem?_eq_getElem hlt⟩
  have hnx := colF_take (rg := rg) hx
  generalize colF rg (es.take i) = o at hnx ⊢
  have hch := chainD_ct x.dc rg
  by_cases hg : x.rg = rg
  ·by_cases hD : ChainD x.dc rg
   ·rw [decide_eq_true hD] at hch
    rw [show colStep rg o x = _ from if_pos ⟨hg, hD⟩] at hnx
    obtain ⟨c1, c2, c3, c4⟩ := hD
    have hk : x.dc.toNat < 3 := by omega
    have g1 : o.enc[0 + x.dc.toNat * 1]? = some (.int .i64 (o.at x.dc.toNat)) := by rw [show 0 + x.dc.toNat * 1 = x.dc.toNat by omega, V3.enc_at _ hk]
    have g3 : o.enc.set (0 + x.dc.toNat * 1) (.int .i64 (mx (o.at x.dc.toNat) x.sq)) = (colF rg (es.take (i + 1))).enc := by rw [show 0 + x.dc.toNat * 1 = x.dc.toNat by omega, V3.enc_put _ hk, hnx]
    have g4 : Nat.blt (0 + x.dc.toNat * 1) o.enc.length = true := Nat.ble_eq_true_of_le (by show 0 + x.dc.toNat * 1 + 1 ≤ 3; omega)
    repeat' (first | refine runS ?_ | refine al (fun _ => ?_) | refine WX.loadEW rfl hs hx rfl rfl ?_ | refine sGW Ent.z.enc x.enc rfl rfl ?_ | refine WX.callQ rfl hch rfl ?_ | fail)
    rename_i b7
    refine W.mixN 8 (List.replicate 13 true) [EnBk b7 x, ClBk b5 o] Tryz.mix (by kernel_rfl) ?_
    repeat' (first | refine runS ?_ | refine lN o.enc _ rfl ?_ (hc := g1) | fail)
    refine I.st ?_
    refine stN o.enc (colF rg (es.take (i + 1))).enc rfl rfl ?_ (e := g3) (hb := g4)
    try refine runS ?_
    exact D.rd (i + 1) (by omega) (by omega)
   ·rw [decide_eq_false hD] at hch
    rw [show colStep rg o x = _ from if_neg fun h => hD h.2] at hnx
    repeat' (first | refine runS ?_ | refine al (fun _ => ?_) | refine WX.loadEW rfl hs hx rfl rfl ?_ | refine sGW Ent.z.enc x.enc rfl rfl ?_ | refine WX.callQ rfl hch rfl ?_ | fail)
    rw [← hnx]
    exact D.rd (i + 1) (by omega) (by omega)
  ·rw [show colStep rg o x = _ from if_neg fun h => hg h.1] at hnx
   repeat' (first | refine runS ?_ | refine al (fun _ => ?_) | refine WX.loadEW rfl hs hx rfl rfl ?_ | refine sGW Ent.z.enc x.enc rfl rfl ?_ | fail)
   rw [← hnx]
   exact D.rd (i + 1) (by omega) (by omega)
 ·obtain rfl : i = es.length := by omega
  rw [take_length]
  generalize colF rg es = o
  repeat' (first | refine runS ?_ | refine lAN o.enc o.enc rfl ?_ | refine sGW V3.z.enc o.enc rfl rfl ?_ | fail)
  exact D.finR1 [h] _ rfl (.cellA rfl rfl .nil) ⟨rfl, rfl⟩
theorem mostI_take {xs : List Int} {i : Nat} {x : Int} (h : xs[i]? = some x) : mostI (xs.take (i + 1)) = mx (mostI (xs.take i)) x := by
 unfold mostI
 rw [take_add_one, h, foldl_append]; rfl
theorem mostI_nn (xs : List Int) : 0 ≤ mostI xs := by
 have key : ∀ (xs : List Int) (a : Int), 0 ≤ a → 0 ≤ xs.foldl mx a := by
  intro xs
  induction xs with
  | nil => intro a h; exact h
  | cons x t ih => intro a h; exact ih _ (Int.le_trans h (mx_le a x).1)
 exact key xs 0 (Int.le_refl 0)
def stampV (ok : Bool) (ct dc rg : Int) : List Value := if ok = true then [.int .i64 ct, .int .i64 dc, .int .i64 rg] else [.int .i64 0, .int .i64 0, .int .i64 0]
set_option maxRecDepth 4000 in
theorem next_ct (dc rg : Int) {xs : List Int} {u : Value} {h : Hp} (hs : Rs xs u h) (hl : xs.length ≤ 1000000) :
  Ct prog 120 [.int .i64 dc, .int .i64 rg, u] [h] (fun r H' => r = .tuple #[.agg (List.toArray (stampV (decide (RightS (nextCt xs) dc rg)) (nextCt xs) dc rg)), .bool (decide (RightS (nextCt xs) dc rg))] ∧ H' = [h]) := by
 have hnn := mostI_nn xs
 refine Ct.mk' func120 rfl rfl rfl (fun g R => ?_)
 try simp only [ca]
 simp only [na]
 repeat' (first | refine runS ?_ | refine al (fun _ => ?_) | fail)
 rename_i b6
 refine W.loop (α := Nat) (fun i => i ≤ xs.length) (fun i => [(0, .int .i64 dc), (1, .int .i64 rg), (6, .pointer (some ⟨b6, 0, none⟩)), (8, .int .i64 (mostI (xs.take i))), (12, u), (13, .int .i64 (xs.length : Int)), (14, .int .i64 (i : Int))]) (fun i => [[(b6, .cells (List.toArray [.int .i64 0, .int .i64 0, .int .i64 0]) 41 (0, 0))], h, R]) (fun i => xs.length - i) 0 (Nat.zero_le _) (by repeat (first | exact Fsub.nil | refine Fsub.cons rfl ?_)) (Hsub.of_picks inferInstance) ?_
 intro i hi
 by_cases hlt : i < xs.length
 ·obtain ⟨x, hx⟩ : ∃ x, xs[i]? = some x := ⟨_, List.getElem?_eq_getElem hlt⟩
  have hnx := mostI_take hx
  generalize mostI (xs.take i) = o at hnx ⊢
  try refine run ?_
  refine D.as 8 (.int .i64 (mostI (xs.take (i + 1)))) rfl (by rw [hnx]; rfl) ?_
  exact D.rd (i + 1) (by omega) (by omega)
 ·obtain rfl : i = xs.length := by omega
  rw [take_length]
  obtain ⟨o, ho⟩ : ∃ o, mostI xs = o := ⟨_, rfl⟩
  obtain ⟨c, hc⟩ : ∃ c, nextCt xs = c := ⟨_, rfl⟩
  have hco : (if 1099511627776 < o then 1099511627776 else o) + 1 = c := by rw [← hc, ← ho]; rfl
  rw [ho] at hnn
  rw [ho, hc]
  have hrs := rightS_ct c dc rg
  have hmin : 0 ≤ (if (1099511627776 : Int) < o then 1099511627776 else o) ∧ (if (1099511627776 : Int) < o then 1099511627776 else o) ≤ 1099511627776 := by split <;> omega
  try refine runS ?_
  rw [hco]
  by_cases hR : RightS c dc rg
  ·rw [decide_eq_true hR] at hrs ⊢
   repeat' (first | refine runS ?_ | refine al (fun _ => ?_) | refine lAN [.int .i64 c, .int .i64 dc, .int .i64 rg] [.int .i64 c, .int .i64 dc, .int .i64 rg] rfl ?_ | refine WX.callQ rfl hrs rfl ?_ | refine bdN (t := 41) [.int .i64 c, .int .i64 dc, .int .i64 rg] ?_ (hf' := by exact rfl) | refine sGW [.int .i64 0, .int .i64 0, .int .i64 0] [.int .i64 c, .int .i64 dc, .int .i64 rg] rfl rfl ?_ | fail)
   exact D.finR [h] _ rfl (.cellA rfl rfl (.tmp rfl .nil)) rfl ⟨rfl, rfl⟩
  ·rw [decide_eq_false hR] at hrs ⊢
   repeat' (first | refine runS ?_ | refine al (fun _ => ?_) | refine lAN [.int .i64 c, .int .i64 dc, .int .i64 rg] [.int .i64 c, .int .i64 dc, .int .i64 rg] rfl ?_ | refine WX.callQ rfl hrs rfl ?_ | refine bdN (t := 41) [.int .i64 c, .int .i64 dc, .int .i64 rg] ?_ (hf' := by exact rfl) | refine sGW [.int .i64 0, .int .i64 0, .int .i64 0] [.int .i64 c, .int .i64 dc, .int .i64 rg] rfl rfl ?_ | fail)
   refine I.bd ?_
   refine bdN (t := 41) [.int .i64 0, .int .i64 0, .int .i64 0] ?_ (hf' := by exact rfl)
   repeat' (first | refine runS ?_ | refine sGW [.int .i64 0, .int .i64 0, .int .i64 0] [.int .i64 0, .int .i64 0, .int .i64 0] rfl rfl ?_ | fail)
   exact D.finR [h] _ rfl (.cellA rfl rfl (.tmp rfl .nil)) rfl ⟨rfl, rfl⟩
end Go.Proofs.YtejfahjgfedliaaGreat

namespace Go.Proofs.YtejfahjgfedliaaGreat
open Go Go.Sl Go.Proofs.Tryz
set_option maxRecDepth 4000 in
set_option maxHeartbeats 2000000 in
theorem entR_ct (e : Ent) : Ct prog 117 [.agg (List.toArray e.enc)] [] (fun r H' => r = .bool (decide (EntR e)) ∧ H' = []) := by
 have hch := chainD_ct e.dc e.rg
 have hst := rightS_ct e.ct e.sd e.sr
 have hrv := rightV_ct e.dp
 refine Ct.mk' func117 rfl rfl rfl (fun g R => ?_)
 try simp only [ca]
 simp only [na]
 by_cases c1 : ChainD e.dc e.rg
 rw [decide_eq_true c1] at hch
 by_cases c2 : 1 ≤ e.sq
 by_cases c3 : e.sq ≤ 1099511627776
 by_cases c4 : RightS e.ct e.sd e.sr
 rw [decide_eq_true c4] at hst
 by_cases c5 : e.sd = e.dc
 by_cases c6 : e.sr = e.rg
 by_cases c7 : 1 ≤ (e.key.size : Int)
 by_cases c8 : (e.key.size : Int) ≤ 16
 by_cases c9 : (e.val.size : Int) ≤ 32
 ·obtain ⟨d1, d2, d3, d4⟩ := c1
  have hb : e.dc.toNat * 3 + e.rg.toNat < 9 := by omega
  obtain ⟨y, hy⟩ : ∃ y, e.dp.at (e.dc.toNat * 3 + e.rg.toNat) = y := ⟨_, rfl⟩
  have g1 : e.enc[0 + 9 + e.dc.toNat * 3 + e.rg.toNat * 1]? = some (.int .i64 y) := by
   rw [← hy, show 0 + 9 + e.dc.toNat * 3 + e.rg.toNat * 1 = 9 + (e.dc.toNat * 3 + e.rg.toNat) by omega, ← List.getElem?_drop, show e.enc.drop 9 = e.dp.enc ++ [.int .i64 e.cl, .int .i64 e.op] from rfl, List.getElem?_append_left (by show _ < 9; exact hb), V9.enc_at _ hb]
  cases hd : e.dead with
  | false =>
   skip
   by_cases q1 : RightV e.dp
   rw [decide_eq_true q1] at hrv
   by_cases q2 : y = e.sq - 1
   by_cases k1 : 0 ≤ e.cl
   by_cases k2 : e.cl < 4
   by_cases k3 : 1 ≤ e.op
   by_cases k4 : e.op ≤ 1099511627776
   ·have hyes : EntR e := ⟨⟨d1, d2, d3, d4⟩, ⟨c2, c3⟩, c4, c5, c6, ⟨by omega, by omega⟩, by omega, (fun h => by rw [hd] at h; cases h), q1, by rw [hy]; exact q2, ⟨k1, k2⟩, ⟨k3, k4⟩⟩
    skip
    skip
    repeat' (first | refine runS ?_ | refine gS (fun _ => ?_) (fun _ => ?_) | refine bx rfl (fun _ => ?_) | refine al (fun _ => ?_) | refine WX.callQ rfl hch rfl ?_ | refine WX.callQ rfl hst rfl ?_ | refine lAN (t := 39) e.enc [.int .i64 e.dc, .int .i64 e.rg, .int .i64 e.sq] rfl ?_ | refine lAN (t := 41) e.enc [.int .i64 e.ct, .int .i64 e.sd, .int .i64 e.sr] rfl ?_ | refine sGW [.int .i64 0, .int .i64 0, .int .i64 0] [.int .i64 e.dc, .int .i64 e.rg, .int .i64 e.sq] rfl rfl ?_ | fail)
    rw [hd]
    skip
    repeat' (first | refine runS ?_ | refine gS (fun _ => ?_) (fun _ => ?_) | refine bx rfl (fun _ => ?_) | refine al (fun _ => ?_) | refine WX.callQ rfl hch rfl ?_ | refine WX.callQ rfl hst rfl ?_ | refine lAN (t := 39) e.enc [.int .i64 e.dc, .int .i64 e.rg, .int .i64 e.sq] rfl ?_ | refine lAN (t := 41) e.enc [.int .i64 e.ct, .int .i64 e.sd, .int .i64 e.sr] rfl ?_ | refine sGW [.int .i64 0, .int .i64 0, .int .i64 0] [.int .i64 e.dc, .int .i64 e.rg, .int .i64 e.sq] rfl rfl ?_ | fail)
    rename_i b1 b3
    refine W.hp (H' := [[(b3, .cells (List.toArray [.int .i64 e.dc, .int .i64 e.rg, .int .i64 e.sq]) 39 (0, 0))], EnBk b1 e, R]) rfl ?_
    refine W.quiet Tryz.mix (by kernel_rfl) ?_
    repeat' (first | refine runS ?_ | refine gS (fun _ => ?_) (fun _ => ?_) | refine bx rfl (fun _ => ?_) | refine al (fun _ => ?_) | refine WX.callQ rfl hrv rfl ?_ | refine lAN (t := 37) e.enc e.dp.enc rfl ?_ | refine lN e.enc _ rfl ?_ (hc := g1) | fail)
    exact D.fin1 [] _ rfl rfl ⟨by rw [decide_eq_true hyes]; simp [k4], rfl⟩
   all_goals
    have hno : ¬ EntR e := by first | exact fun h => q1 h.dp | exact fun h => q2 (hy ▸ h.own) | exact fun h => k1 h.cl.1 | exact fun h => k2 h.cl.2 | exact fun h => k3 h.op.1 | exact fun h => k4 h.op.2
    try rw [decide_eq_false q1] at hrv
    skip
    skip
    repeat' (first | refine runS ?_ | refine gS (fun _ => ?_) (fun _ => ?_) | refine bx rfl (fun _ => ?_) | refine al (fun _ => ?_) | refine WX.callQ rfl hch rfl ?_ | refine WX.callQ rfl hst rfl ?_ | refine lAN (t := 39) e.enc [.int .i64 e.dc, .int .i64 e.rg, .int .i64 e.sq] rfl ?_ | refine lAN (t := 41) e.enc [.int .i64 e.ct, .int .i64 e.sd, .int .i64 e.sr] rfl ?_ | refine sGW [.int .i64 0, .int .i64 0, .int .i64 0] [.int .i64 e.dc, .int .i64 e.rg, .int .i64 e.sq] rfl rfl ?_ | fail)
    rw [hd]
    skip
    repeat' (first | refine runS ?_ | refine gS (fun _ => ?_) (fun _ => ?_) | refine bx rfl (fun _ => ?_) | refine al (fun _ => ?_) | refine WX.callQ rfl hch rfl ?_ | refine WX.callQ rfl hst rfl ?_ | refine lAN (t := 39) e.enc [.int .i64 e.dc, .int .i64 e.rg, .int .i64 e.sq] rfl ?_ | refine lAN (t := 41) e.enc [.int .i64 e.ct, .int .i64 e.sd, .int .i64 e.sr] rfl ?_ | refine sGW [.int .i64 0, .int .i64 0, .int .i64 0] [.int .i64 e.dc, .int .i64 e.rg, .int .i64 e.sq] rfl rfl ?_ | fail)
    rename_i b1 b3
    refine W.hp (H' := [[(b3, .cells (List.toArray [.int .i64 e.dc, .int .i64 e.rg, .int .i64 e.sq]) 39 (0, 0))], EnBk b1 e, R]) rfl ?_
    refine W.quiet Tryz.mix (by kernel_rfl) ?_
    repeat' (first | refine runS ?_ | refine gS (fun _ => ?_) (fun _ => ?_) | refine bx rfl (fun _ => ?_) | refine al (fun _ => ?_) | refine WX.callQ rfl hrv rfl ?_ | refine lAN (t := 37) e.enc e.dp.enc rfl ?_ | refine lN e.enc _ rfl ?_ (hc := g1) | fail)
    exact D.fin1 [] _ rfl rfl ⟨by rw [decide_eq_false hno]; first | done | simp [k4], rfl⟩
  | true =>
   by_cases hv : e.val = ⟨#[]⟩
   ·have hv2 : ¬ ¬ e.val = ⟨#[]⟩ := fun h => h hv
    by_cases q1 : RightV e.dp
    rw [decide_eq_true q1] at hrv
    by_cases q2 : y = e.sq - 1
    by_cases k1 : 0 ≤ e.cl
    by_cases k2 : e.cl < 4
    by_cases k3 : 1 ≤ e.op
    by_cases k4 : e.op ≤ 1099511627776
    ·have hyes : EntR e := ⟨⟨d1, d2, d3, d4⟩, ⟨c2, c3⟩, c4, c5, c6, ⟨by omega, by omega⟩, by omega, (fun _ => hv), q1, by rw [hy]; exact q2, ⟨k1, k2⟩, ⟨k3, k4⟩⟩
     skip
     skip
     repeat' (first | refine runS ?_ | refine gS (fun _ => ?_) (fun _ => ?_) | refine bx rfl (fun _ => ?_) | refine al (fun _ => ?_) | refine WX.callQ rfl hch rfl ?_ | refine WX.callQ rfl hst rfl ?_ | refine lAN (t := 39) e.enc [.int .i64 e.dc, .int .i64 e.rg, .int .i64 e.sq] rfl ?_ | refine lAN (t := 41) e.enc [.int .i64 e.ct, .int .i64 e.sd, .int .i64 e.sr] rfl ?_ | refine sGW [.int .i64 0, .int .i64 0, .int .i64 0] [.int .i64 e.dc, .int .i64 e.rg, .int .i64 e.sq] rfl rfl ?_ | fail)
     rw [hd]
     skip
     repeat' (first | refine runS ?_ | refine gS (fun _ => ?_) (fun _ => ?_) | refine bx rfl (fun _ => ?_) | refine al (fun _ => ?_) | refine WX.callQ rfl hch rfl ?_ | refine WX.callQ rfl hst rfl ?_ | refine lAN (t := 39) e.enc [.int .i64 e.dc, .int .i64 e.rg, .int .i64 e.sq] rfl ?_ | refine lAN (t := 41) e.enc [.int .i64 e.ct, .int .i64 e.sd, .int .i64 e.sr] rfl ?_ | refine sGW [.int .i64 0, .int .i64 0, .int .i64 0] [.int .i64 e.dc, .int .i64 e.rg, .int .i64 e.sq] rfl rfl ?_ | fail)
     rename_i b1 b3
     refine W.hp (H' := [[(b3, .cells (List.toArray [.int .i64 e.dc, .int .i64 e.rg, .int .i64 e.sq]) 39 (0, 0))], EnBk b1 e, R]) rfl ?_
     refine W.quiet Tryz.mix (by kernel_rfl) ?_
     repeat' (first | refine runS ?_ | refine gS (fun _ => ?_) (fun _ => ?_) | refine bx rfl (fun _ => ?_) | refine al (fun _ => ?_) | refine WX.callQ rfl hrv rfl ?_ | refine lAN (t := 37) e.enc e.dp.enc rfl ?_ | refine lN e.enc _ rfl ?_ (hc := g1) | fail)
     exact D.fin1 [] _ rfl rfl ⟨by rw [decide_eq_true hyes]; simp [k4], rfl⟩
    all_goals
     have hno : ¬ EntR e := by first | exact fun h => q1 h.dp | exact fun h => q2 (hy ▸ h.own) | exact fun h => k1 h.cl.1 | exact fun h => k2 h.cl.2 | exact fun h => k3 h.op.1 | exact fun h => k4 h.op.2
     try rw [decide_eq_false q1] at hrv
     skip
     skip
     repeat' (first | refine runS ?_ | refine gS (fun _ => ?_) (fun _ => ?_) | refine bx rfl (fun _ => ?_) | refine al (fun _ => ?_) | refine WX.callQ rfl hch rfl ?_ | refine WX.callQ rfl hst rfl ?_ | refine lAN (t := 39) e.enc [.int .i64 e.dc, .int .i64 e.rg, .int .i64 e.sq] rfl ?_ | refine lAN (t := 41) e.enc [.int .i64 e.ct, .int .i64 e.sd, .int .i64 e.sr] rfl ?_ | refine sGW [.int .i64 0, .int .i64 0, .int .i64 0] [.int .i64 e.dc, .int .i64 e.rg, .int .i64 e.sq] rfl rfl ?_ | fail)
     rw [hd]
     skip
     repeat' (first | refine runS ?_ | refine gS (fun _ => ?_) (fun _ => ?_) | refine bx rfl (fun _ => ?_) | refine al (fun _ => ?_) | refine WX.callQ rfl hch rfl ?_ | refine WX.callQ rfl hst rfl ?_ | refine lAN (t := 39) e.enc [.int .i64 e.dc, .int .i64 e.rg, .int .i64 e.sq] rfl ?_ | refine lAN (t := 41) e.enc [.int .i64 e.ct, .int .i64 e.sd, .int .i64 e.sr] rfl ?_ | refine sGW [.int .i64 0, .int .i64 0, .int .i64 0] [.int .i64 e.dc, .int .i64 e.rg, .int .i64 e.sq] rfl rfl ?_ | fail)
     rename_i b1 b3
     refine W.hp (H' := [[(b3, .cells (List.toArray [.int .i64 e.dc, .int .i64 e.rg, .int .i64 e.sq]) 39 (0, 0))], EnBk b1 e, R]) rfl ?_
     refine W.quiet Tryz.mix (by kernel_rfl) ?_
     repeat' (first | refine runS ?_ | refine gS (fun _ => ?_) (fun _ => ?_) | refine bx rfl (fun _ => ?_) | refine al (fun _ => ?_) | refine WX.callQ rfl hrv rfl ?_ | refine lAN (t := 37) e.enc e.dp.enc rfl ?_ | refine lN e.enc _ rfl ?_ (hc := g1) | fail)
     exact D.fin1 [] _ rfl rfl ⟨by rw [decide_eq_false hno]; first | done | simp [k4], rfl⟩
   ·have hno : ¬ EntR e := fun h => hv (h.dead hd)
    skip
    repeat' (first | refine runS ?_ | refine gS (fun _ => ?_) (fun _ => ?_) | refine bx rfl (fun _ => ?_) | refine al (fun _ => ?_) | refine WX.callQ rfl hch rfl ?_ | refine WX.callQ rfl hst rfl ?_ | refine lAN (t := 39) e.enc [.int .i64 e.dc, .int .i64 e.rg, .int .i64 e.sq] rfl ?_ | refine lAN (t := 41) e.enc [.int .i64 e.ct, .int .i64 e.sd, .int .i64 e.sr] rfl ?_ | refine sGW [.int .i64 0, .int .i64 0, .int .i64 0] [.int .i64 e.dc, .int .i64 e.rg, .int .i64 e.sq] rfl rfl ?_ | fail)
    rw [hd]
    skip
    repeat' (first | refine runS ?_ | refine gS (fun _ => ?_) (fun _ => ?_) | refine bx rfl (fun _ => ?_) | refine al (fun _ => ?_) | refine WX.callQ rfl hch rfl ?_ | refine WX.callQ rfl hst rfl ?_ | refine lAN (t := 39) e.enc [.int .i64 e.dc, .int .i64 e.rg, .int .i64 e.sq] rfl ?_ | refine lAN (t := 41) e.enc [.int .i64 e.ct, .int .i64 e.sd, .int .i64 e.sr] rfl ?_ | refine sGW [.int .i64 0, .int .i64 0, .int .i64 0] [.int .i64 e.dc, .int .i64 e.rg, .int .i64 e.sq] rfl rfl ?_ | fail)
    exact D.fin1 [] _ rfl rfl ⟨by rw [decide_eq_false hno], rfl⟩
 all_goals
  have hno : ¬ EntR e := by first | exact fun h => c1 h.ch | exact fun h => c2 h.sq.1 | exact fun h => c3 h.sq.2 | exact fun h => c4 h.st | exact fun h => c5 h.sd | exact fun h => c6 h.sr | exact fun h => c7 (by have := h.key.1; omega) | exact fun h => c8 (by have := h.key.2; omega) | exact fun h => c9 (by have := h.val; omega)
  try rw [decide_eq_false c1] at hch
  try rw [decide_eq_false c4] at hst
  skip
  skip
  repeat' (first | refine runS ?_ | refine gS (fun _ => ?_) (fun _ => ?_) | refine bx rfl (fun _ => ?_) | refine al (fun _ => ?_) | refine WX.callQ rfl hch rfl ?_ | refine WX.callQ rfl hst rfl ?_ | refine lAN (t := 39) e.enc [.int .i64 e.dc, .int .i64 e.rg, .int .i64 e.sq] rfl ?_ | refine lAN (t := 41) e.enc [.int .i64 e.ct, .int .i64 e.sd, .int .i64 e.sr] rfl ?_ | refine sGW [.int .i64 0, .int .i64 0, .int .i64 0] [.int .i64 e.dc, .int .i64 e.rg, .int .i64 e.sq] rfl rfl ?_ | fail)
  exact D.fin1 [] _ rfl rfl ⟨by rw [decide_eq_false hno], rfl⟩
end Go.Proofs.YtejfahjgfedliaaGreat

namespace Go.Proofs.YtejfahjgfedliaaGreat
open Go Go.Sl Go.Proofs.Tryz List
def CS.cells (s : CS) (v : Value) : List Value := [.int .i64 s.dc, .int .i64 s.rg, .int .i64 s.nd] ++ ((cfO s.co).enc ++ [.int .i64 s.sn, .int .i64 s.bs, v, .int .i64 s.du, .int .i64 s.st, .int .i64 s.ak, .int .i64 s.ow, .bool s.su])
abbrev CsBk (b : Nat) (s : CS) (v : Value) : Hp := [(b, .cells (List.toArray (s.cells v)) 112 (0, 0))]
theorem isLast_ct {s : CS} (ok : ChO s.co) (b : Nat) (v : Value) : Ct prog 167 [.pointer (some ⟨b, 0, none⟩)] [CsBk b s v] (fun r H' => r = .bool (decide s.last) ∧ H' = [CsBk b s v]) := by
 have hl := last_ct ok
 refine Ct.mk' func167 rfl rfl rfl (fun g R => ?_)
 try simp only [ca]
 simp only [na]
 by_cases h0 : 0 ≤ s.nd
 ·try refine runS ?_
  refine W.quiet Tryz.mix (by kernel_rfl) ?_
  repeat' (first | refine runS ?_ | refine lAN (s.cells v) (cfO s.co).enc rfl ?_ | refine WX.callQ rfl hl rfl ?_ | fail)
  exact D.fin1 [CsBk b s v] _ rfl rfl ⟨by simp [h0], rfl⟩
 ·try refine runS ?_
  refine W.quiet Tryz.mix (by kernel_rfl) ?_
  try refine runS ?_
  exact D.fin1 [CsBk b s v] _ rfl rfl ⟨by simp [h0], rfl⟩
theorem isHead_ct {s : CS} (ok : ChO s.co) (b : Nat) (v : Value) : Ct prog 118 [.pointer (some ⟨b, 0, none⟩)] [CsBk b s v] (fun r H' => r = .bool (decide s.head) ∧ H' = [CsBk b s v]) := by
 have hl := head_ct ok
 refine Ct.mk' func118 rfl rfl rfl (fun g R => ?_)
 try simp only [ca]
 simp only [na]
 by_cases h0 : 0 ≤ s.nd
 ·try refine runS ?_
  refine W.quiet Tryz.mix (by kernel_rfl) ?_
  repeat' (first | refine runS ?_ | refine lAN (s.cells v) (cfO s.co).enc rfl ?_ | refine WX.callQ rfl hl rfl ?_ | fail)
  exact D.fin1 [CsBk b s v] _ rfl rfl ⟨by simp [h0], rfl⟩
 ·try refine runS ?_
  refine W.quiet Tryz.mix (by kernel_rfl) ?_
  try refine runS ?_
  exact D.fin1 [CsBk b s v] _ rfl rfl ⟨by simp [h0], rfl⟩
theorem settle_ct {s : CS} (ok : ChO s.co) (b : Nat) (v : Value) : Ct prog 110 [.pointer (some ⟨b, 0, none⟩)] [CsBk b s v] (fun r H' => r = .tuple #[] ∧ H' = [CsBk b s.settle v]) := by
 have hl := isLast_ct ok b v
 refine Ct.mk' func110 rfl rfl rfl (fun g R => ?_)
 try simp only [ca]
 simp only [na]
 by_cases h0 : s.last
 ·rw [decide_eq_true h0] at hl
  cases hj : (cfO s.co).jo with
  | false =>
   have e : s.settle = { s with su := true, st := s.du } := by unfold CS.settle; rw [if_pos h0, if_pos hj]
   rw [e]
   repeat' (first | refine runS ?_ | refine WX.callQ rfl hl rfl ?_ | fail)
   rw [hj]
   try refine runS ?_
   refine I.st ?_
   refine stN (s.cells v) (CS.cells { s with su := true } v) rfl rfl ?_
   try refine runS ?_
   refine I.st ?_
   refine stN (CS.cells { s with su := true } v) (CS.cells { s with su := true, st := s.du } v) rfl rfl ?_
   try refine runS ?_
   first | exact D.finE [CsBk b ({ s with su := true, st := s.du } : CS) v] _ rfl ⟨rfl, rfl⟩ | exact D.fin0 [CsBk b ({ s with su := true, st := s.du } : CS) v] _ rfl ⟨rfl, rfl⟩
  | true =>
   cases hs : s.su with
   | true =>
    have e : s.settle = { s with st := mx s.st s.bs } := by unfold CS.settle; rw [if_pos h0, if_neg (by rw [hj]; decide), if_pos hs]
    rw [e]
    repeat' (first | refine runS ?_ | refine WX.callQ rfl hl rfl ?_ | fail)
    rw [hj]
    try refine runS ?_
    rw [hs]
    try refine runS ?_
    refine W.mixN 8 (List.replicate 10 true) [CsBk b s v] Tryz.mix (by kernel_rfl) ?_
    try refine runS ?_
    refine I.st ?_
    refine stN (s.cells v) (CS.cells { s with st := mx s.st s.bs } v) rfl rfl ?_
    try refine runS ?_
    exact D.finE [CsBk b ({ s with st := mx s.st s.bs } : CS) v] _ rfl ⟨rfl, by rw [hs]⟩
   | false =>
    have e : s.settle = s := by unfold CS.settle; rw [if_pos h0, if_neg (by rw [hj]; decide), if_neg (by rw [hs]; decide)]
    rw [e]
    repeat' (first | refine runS ?_ | refine WX.callQ rfl hl rfl ?_ | fail)
    rw [hj]
    try refine runS ?_
    rw [hs]
    try refine runS ?_
    first | exact D.finE [CsBk b s v] _ rfl ⟨rfl, rfl⟩ | exact D.fin0 [CsBk b s v] _ rfl ⟨rfl, rfl⟩
 ·rw [decide_eq_false h0] at hl
  have e : s.settle = s := if_neg h0
  rw [e]
  repeat' (first | refine runS ?_ | refine WX.callQ rfl hl rfl ?_ | fail)
  first | exact D.finE [CsBk b s v] _ rfl ⟨rfl, rfl⟩ | exact D.fin0 [CsBk b s v] _ rfl ⟨rfl, rfl⟩
theorem cnew_ct (dc rg nd : Int) : Ct prog 46 [.int .i64 dc, .int .i64 rg, .int .i64 nd] [] (fun r H' => ∃ b, r = .pointer (some ⟨b, 0, none⟩) ∧ H' = [CsBk b (CS.new dc rg nd) (.slice none 0 0)]) := by
 refine Ct.mk' func46 rfl rfl rfl (fun g R => ?_)
 try simp only [ca]
 simp only [na]
 repeat' (first | refine runS ?_ | refine bx rfl (fun _ => ?_) | refine bdN ((CS.new dc rg nd).cells (.slice none 0 0)) ?_ | fail)
 rename_i b
 exact D.fin1 [CsBk b (CS.new dc rg nd) (.slice none 0 0)] _ rfl rfl ⟨b, rfl, rfl⟩
theorem ccolumn_ct (s : CS) (b : Nat) {v : Value} {hv : Hp} (hs : Rs s.lg v hv) (hl : s.lg.length ≤ 1000000) : Ct prog 122 [.pointer (some ⟨b, 0, none⟩)] [CsBk b s v, hv] (fun r H' => r = .agg (List.toArray (colF s.rg s.lg).enc) ∧ H' = [CsBk b s v, hv]) := by
 have hc := column_ct s.rg hs hl
 generalize colF s.rg s.lg = o at hc ⊢
 refine Ct.mk' func122 rfl rfl rfl (fun g R => ?_)
 try simp only [ca]
 simp only [na]
 repeat' (first | refine runS ?_ | refine al (fun _ => ?_) | fail)
 refine W.mixN 8 (List.replicate 8 true ++ [false]) [CsBk b s v] Tryz.mix (by kernel_rfl) ?_
 try refine runS ?_
 refine WX.callQ rfl hc rfl ?_
 repeat' (first | refine runS ?_ | refine sGW V3.z.enc o.enc rfl rfl ?_ | fail)
 exact D.finR1 [CsBk b s v, hv] _ rfl (.cellA rfl rfl .nil) ⟨rfl, rfl⟩
theorem cbehind_ct (s : CS) (b : Nat) {v : Value} {hv : Hp} (hs : Rs s.lg v hv) (hl : s.lg.length ≤ 1000000) (deps : V9) : Ct prog 121 [.pointer (some ⟨b, 0, none⟩), .agg (List.toArray deps.enc)] [CsBk b s v, hv] (fun r H' => r = .bool (decide (¬ s.covers deps)) ∧ H' = [CsBk b s v, hv]) := by
 have hc := ccolumn_ct s b hs hl
 have hp := part_ct deps s.rg
 have hcv := covC_ct (colF s.rg s.lg) (partV deps s.rg)
 refine Ct.mk' func121 rfl rfl rfl (fun g R => ?_)
 try simp only [ca]
 simp only [na]
 repeat' (first | refine runS ?_ | refine bx rfl (fun _ => ?_) | fail)
 refine W.quiet Tryz.mix (by kernel_rfl) ?_
 repeat' (first | refine runS ?_ | refine WX.callQ rfl hc rfl ?_ | refine WX.callQ rfl hp rfl ?_ | refine WX.callQ rfl hcv rfl ?_ | refine lAN deps.enc deps.enc rfl ?_ | fail)
 exact D.fin1 [CsBk b s v, hv] _ rfl rfl ⟨rfl, rfl⟩
def foV (b1 b2 : Nat) : Value := .func (.func 178) (List.toArray []) (List.toArray [.pointer (some ⟨b1, 0, none⟩), .pointer (some ⟨b2, 0, none⟩)])
theorem isFo_ct (b1 b2 : Nat) (cl op : Int) (e : Ent) : Ct prog 178 [.agg (Enc.enc e).toArray, .pointer (some ⟨b1, 0, none⟩), .pointer (some ⟨b2, 0, none⟩)] [NBk b1 cl, NBk b2 op] (fun r H' => r = .bool (decide (e.cl = cl ∧ e.op = op)) ∧ H' = [NBk b1 cl, NBk b2 op]) := by
 refine Ct.mk' func178 rfl rfl rfl (fun g R => ?_)
 try simp only [ca]
 simp only [na]
 by_cases h0 : e.cl = cl
 ·repeat' (first | refine runS ?_ | refine bx rfl (fun _ => ?_) | fail)
  exact D.fin1 [NBk b1 cl, NBk b2 op] _ rfl rfl ⟨by simp [h0], rfl⟩
 ·repeat' (first | refine runS ?_ | refine bx rfl (fun _ => ?_) | fail)
  exact D.fin1 [NBk b1 cl, NBk b2 op] _ rfl rfl ⟨by simp [h0], rfl⟩
theorem efind_ct {ps : List Ent} {v : Value} {h : Hp} (hs : Rs ps v h) (b1 b2 : Nat) (cl op : Int) (hl : ps.length ≤ 1000000) :
  Ct prog 177 [v, foV b1 b2] [h, NBk b1 cl, NBk b2 op] (fun r H' => r = .int .i64 (foundE ps cl op - 1) ∧ H' = [h, NBk b1 cl, NBk b2 op]) := by
 refine Ct.mk' func177 rfl rfl rfl (fun g R => ?_)
 try simp only [ca]
 simp only [na]
 try refine run ?_
 refine W.loop (α := Nat) (fun j => j ≤ ps.length ∧ ∀ (i : Nat) (p : Ent), i < j → ps[i]? = some p → ¬ (p.cl = cl ∧ p.op = op)) (fun j => [(0, v), (1, foV b1 b2), (7, .int .i64 (ps.length : Int)), (8, .int .i64 (j : Int))]) (fun _ => [h, NBk b1 cl, NBk b2 op, R]) (fun j => ps.length - j) 0 ⟨Nat.zero_le _, fun i p hi => absurd hi (Nat.not_lt_zero _)⟩ (by repeat (first | exact Fsub.nil | refine Fsub.cons rfl ?_)) (Hsub.of_picks inferInstance) ?_
 rintro j ⟨hj, hall⟩
 by_cases hlt : j < ps.length
 ·obtain ⟨p, hp⟩ : ∃ p, ps[j]? = some p := ⟨_, List.getElem?_eq_getElem hlt⟩
  try refine run ?_
  refine WX.callV rfl rfl (isFo_ct b1 b2 cl op p) rfl ?_
  rintro _ _ ⟨rfl, rfl⟩
  by_cases hpk : p.cl = cl ∧ p.op = op
  ·have hf : foundE ps cl op = (j : Int) + 1 := by
    have : ps.findIdx? (fun e => decide (e.cl = cl ∧ e.op = op)) = some j := by
     rw [List.findIdx?_eq_some_iff_getElem]
     obtain ⟨h1, h2⟩ := List.getElem?_eq_some_iff.1 hp
     refine ⟨h1, by rw [h2]; simpa using hpk, fun i hi => ?_⟩
     have := hall i _ hi (List.getElem?_eq_getElem (by omega))
     simpa using this
    unfold foundE; rw [this]
   simp only [ca, na]
   try refine run ?_
   exact D.fin1 [h, NBk b1 cl, NBk b2 op] _ rfl rfl ⟨by rw [hf]; congr 1; omega, rfl⟩
  ·simp only [ca, na]
   try refine run ?_
   refine D.rd (j + 1) ⟨by omega, fun i p' hi hp' => ?_⟩ (by omega)
   rcases Nat.lt_or_ge i j with h | h
   ·exact hall i p' h hp'
   ·obtain rfl : i = j := by omega
    rw [hp] at hp'
    cases hp'
    exact hpk
 ·have hf : foundE ps cl op = 0 := by
   have : ps.findIdx? (fun e => decide (e.cl = cl ∧ e.op = op)) = none := by
    rw [List.findIdx?_eq_none_iff]
    intro x hx
    obtain ⟨i, hi⟩ := mem_iff_getElem?.1 hx
    have hlt' := (List.getElem?_eq_some_iff.1 hi).1
    have := hall i x (by omega) hi
    simpa using this
   unfold foundE; rw [this]
  rw [hf]
  try refine run ?_
  exact D.fin1 [h, NBk b1 cl, NBk b2 op] _ rfl rfl ⟨rfl, rfl⟩
theorem foundE_range (es : List Ent) (cl op : Int) : 0 ≤ foundE es cl op ∧ foundE es cl op ≤ (es.length : Int) := by
 unfold foundE
 cases h : es.findIdx? (fun e => decide (e.cl = cl ∧ e.op = op)) with
 | none => simp only []; omega
 | some i => have := (List.findIdx?_eq_some_iff_getElem.1 h).1; simp only []; omega
theorem cfound_ct (s : CS) (b : Nat) {v : Value} {hv : Hp} (hs : Rs s.lg v hv) (hl : s.lg.length ≤ 1000000) (cl op : Int) : Ct prog 119 [.pointer (some ⟨b, 0, none⟩), .int .i64 cl, .int .i64 op] [CsBk b s v, hv] (fun r H' => r = .int .i64 (foundE s.lg cl op) ∧ H' = [CsBk b s v, hv]) := by
 have hr := foundE_range s.lg cl op
 refine Ct.mk' func119 rfl rfl rfl (fun g R => ?_)
 try simp only [ca]
 simp only [na]
 repeat' (first | refine runS ?_ | refine bx rfl (fun _ => ?_) | (refine WX.makeFunc (first := []) rfl rfl rfl ?_) | fail)
 rename_i b4 b5
 refine WX.callQ rfl (efind_ct hs b4 b5 cl op hl) rfl ?_
 try refine runS ?_
 exact D.fin1 [CsBk b s v, hv] _ rfl rfl ⟨by congr 1; omega, rfl⟩
end Go.Proofs.YtejfahjgfedliaaGreat

namespace Go.Sl
open Go List
section
variable {g : World} {P : Program} {ops : Array Oper} {Q : Exit → Act → World → Prop} {q : Bool} {n d ty : Nat} {pos : String} {af : Array Edge} {rest : List Oper} {L : Fm} {H : HH} {x y z : Operand}
theorem WX.max3 {i j k : Int} {kd : IntKind} {ts : Array TypeId} (hx : ev L x = some (.int kd i)) (hy : ev L y = some (.int kd j)) (hz : ev L z = some (.int kd k)) (hd : Nat.blt d n = true)
  (kk : WX q g P ops Q n rest ((d, .int kd (if k > (if j > i then j else i) then k else (if j > i then j else i))) :: L) H) :
  WX q g P ops Q n (⟨some d, .call ⟨.builtin .max, #[x, y, z], ts⟩, ty, pos, af, none⟩ :: rest) L H :=
 WX.val (fun a ha w _ => run_bi (args := [x, y, z]) (by simp [ha.ev hx, ha.ev hy, ha.ev hz]; rfl) (by simp [builtin, Builtin.max_, Builtin.max2])) hd kk
end
end Go.Sl
namespace Go.Proofs.YtejfahjgfedliaaGreat
open Go Go.Sl Go.Proofs.Tryz List
def CsPost (s : CS) (b : Nat) (H' : HH) : Prop := ∃ v hv, H' = [CsBk b s v, hv] ∧ IsSl 43 s.lg v hv
theorem csync_ct {s : CS} (ok : CsOk s) (b : Nat) {v : Value} {hv : Hp} (hs : IsSl 43 s.lg v hv) : Ct prog 70 [.pointer (some ⟨b, 0, none⟩)] [CsBk b s v, hv] (fun r H' => r = .tuple #[] ∧ CsPost s.sync b H') := by
 have hr := hs.rs
 have hse := settle_ct (s := { s with du := s.len }) ok.co b v
 have hlg : s.sync.lg = s.lg := (settle_same ({ s with du := s.len } : CS)).2.2.2.2.2.2.1
 refine Ct.mk' func70 rfl rfl rfl (fun g R => ?_)
 try simp only [ca]
 simp only [na]
 try refine runS ?_
 refine I.st ?_
 refine stN (s.cells v) (CS.cells { s with du := s.len } v) rfl rfl ?_
 try refine runS ?_
 refine WX.call rfl hse rfl ?_
 rintro _ _ ⟨rfl, rfl⟩
 simp only [ca, na]
 try refine runS ?_
 exact D.finE [CsBk b (CS.settle { s with du := s.len }) v, hv] _ rfl ⟨rfl, v, hv, rfl, by rw [hlg]; exact hs⟩
theorem push_lg (s : CS) (e : Ent) : (s.push e).settle.lg = s.lg ++ [e] := (settle_same (s.push e)).2.2.2.2.2.2.1
set_option maxRecDepth 10000 in
set_option maxHeartbeats 1000000 in
theorem ctake_ct {s : CS} (ok : CsOk s) (b : Nat) {v : Value} {hv : Hp} (hs : IsSl 43 s.lg v hv) (fr ep ix : Int) (e : Ent) :
  Ct prog 66 [.pointer (some ⟨b, 0, none⟩), .int .i64 fr, .int .i64 ep, .int .i64 ix, .agg (List.toArray e.enc)] [CsBk b s v, hv] (fun r H' => r = .bool (s.take fr ep ix e).1 ∧ CsPost (s.take fr ep ix e).2 b H') := by
 have hr := hs.rs
 have hah := ahead_ct ok.co s.nd
 have hen := entR_ct e
 have hll := ok.len
 have hlen : s.len = (s.lg.length : Int) := rfl
 by_cases hT : s.takes fr ep ix e
 ·have e0 : s.take fr ep ix e = (true, (s.push e).settle) := if_pos hT
  rw [e0]
  obtain ⟨t1, t2, t3, t4, t5, t6⟩ := hT
  rw [decide_eq_true t5] at hen
  generalize aheadO s.co s.nd = ah at hah t3
  have hse := fun v' => settle_ct (s := s.push e) ok.co b v'
  refine Ct.mk' func66 rfl rfl rfl (fun g R => ?_)
  try simp only [ca]
  simp only [na]
  repeat' (first | refine runS ?_ | refine bx rfl (fun _ => ?_) | fail)
  rename_i b9
  refine W.quiet Tryz.mix (by kernel_rfl) ?_
  repeat' (first | refine runS ?_ | refine lAN (t := 34) (s.cells v) (cfO s.co).enc rfl ?_ | refine lAN (t := 43) e.enc e.enc rfl ?_ | refine WX.callQ rfl hah rfl ?_ | refine WX.callQ rfl hen rfl ?_ | fail)
  refine W.mixN 8 [true, true, true, true, true, true, false, false] [CsBk b s v, EnBk b9 e] Tryz.mix (by kernel_rfl) ?_
  repeat' (first | refine runS ?_ | refine lAN (t := 43) e.enc e.enc rfl ?_ | fail)
  refine I.bs ?_
  refine WX.lit (ys := [e]) rfl rfl rfl rfl rfl rfl (by decide) rfl (fun v2 h2 hs2 => ?_)
  try refine runS ?_
  refine WX.app rfl rfl hs hs2.rs rfl rfl (by decide) (by simp only [length_cons, length_nil]; omega) rfl (fun v3 h3 hs3 => ?_)
  obtain ⟨p3, c3, e3⟩ := hs3.rs.len
  subst e3
  try refine runS ?_
  refine I.st ?_
  refine stN (s.cells v) (CS.cells (s.push e) (.slice p3 (s.lg ++ [e]).length c3)) rfl rfl ?_
  try refine runS ?_
  refine WX.call rfl (hse (.slice p3 (s.lg ++ [e]).length c3)) rfl ?_
  rintro _ _ ⟨rfl, rfl⟩
  simp only [ca, na]
  try refine runS ?_
  exact D.fin1 [CsBk b (s.push e).settle (.slice p3 (s.lg ++ [e]).length c3), h3] _ rfl rfl ⟨rfl, _, h3, rfl, by rw [push_lg]; exact hs3⟩
 ·have e0 : s.take fr ep ix e = (false, s) := if_neg hT
  rw [e0]
  refine Ct.mk' func66 rfl rfl rfl (fun g R => ?_)
  try simp only [ca]
  simp only [na]
  repeat' (first | refine runS ?_ | refine bx rfl (fun _ => ?_) | fail)
  refine W.quiet Tryz.mix (by kernel_rfl) ?_
  by_cases t1 : ep = (cfO s.co).ep
  rotate_left
  ·skip
   try refine runS ?_
   exact D.fin1 [CsBk b s v, hv] _ rfl rfl ⟨rfl, v, hv, rfl, hs⟩
  by_cases t2 : 0 ≤ fr
  rotate_left
  ·skip
   try refine runS ?_
   exact D.fin1 [CsBk b s v, hv] _ rfl rfl ⟨rfl, v, hv, rfl, hs⟩
  by_cases t3 : fr = aheadO s.co s.nd
  rotate_left
  ·skip
   repeat' (first | refine runS ?_ | refine lAN (t := 34) (s.cells v) (cfO s.co).enc rfl ?_ | refine WX.callQ rfl hah rfl ?_ | fail)
   exact D.fin1 [CsBk b s v, hv] _ rfl rfl ⟨rfl, v, hv, rfl, hs⟩
  by_cases t4 : ix = s.len + 1
  rotate_left
  ·skip
   repeat' (first | refine runS ?_ | refine lAN (t := 34) (s.cells v) (cfO s.co).enc rfl ?_ | refine WX.callQ rfl hah rfl ?_ | fail)
   exact D.fin1 [CsBk b s v, hv] _ rfl rfl ⟨rfl, v, hv, rfl, hs⟩
  by_cases t5 : EntR e
  rotate_left
  ·rw [decide_eq_false t5] at hen
   skip
   repeat' (first | refine runS ?_ | refine lAN (t := 34) (s.cells v) (cfO s.co).enc rfl ?_ | refine lAN (t := 43) e.enc e.enc rfl ?_ | refine WX.callQ rfl hah rfl ?_ | refine WX.callQ rfl hen rfl ?_ | fail)
   exact D.fin1 [CsBk b s v, hv] _ rfl rfl ⟨rfl, v, hv, rfl, hs⟩
  by_cases t6 : s.len < 256
  ·exact absurd ⟨t1, t2, t3, t4, t5, t6⟩ hT
  ·rw [decide_eq_true t5] at hen
   skip
   repeat' (first | refine runS ?_ | refine lAN (t := 34) (s.cells v) (cfO s.co).enc rfl ?_ | refine lAN (t := 43) e.enc e.enc rfl ?_ | refine WX.callQ rfl hah rfl ?_ | refine WX.callQ rfl hen rfl ?_ | fail)
   exact D.fin1 [CsBk b s v, hv] _ rfl rfl ⟨rfl, v, hv, rfl, hs⟩
theorem clen_ct (s : CS) (b : Nat) {v : Value} {hv : Hp} (hs : Rs s.lg v hv) : Ct prog 23 [.pointer (some ⟨b, 0, none⟩)] [CsBk b s v] (fun r H' => r = .int .i64 s.len ∧ H' = [CsBk b s v]) := by
 obtain ⟨p, c, rfl⟩ := hs.len
 refine Ct.mk' func23 rfl rfl rfl (fun g R => ?_)
 try simp only [ca]
 simp only [na]
 try refine runS ?_
 exact D.fin1 [CsBk b s _] _ rfl rfl ⟨rfl, rfl⟩
theorem cdur_ct (s : CS) (b : Nat) (v : Value) : Ct prog 17 [.pointer (some ⟨b, 0, none⟩)] [CsBk b s v] (fun r H' => r = .int .i64 s.du ∧ H' = [CsBk b s v]) := by
 refine Ct.mk' func17 rfl rfl rfl (fun g R => ?_)
 try simp only [ca]
 simp only [na]
 try refine runS ?_
 exact D.fin1 [CsBk b s v] _ rfl rfl ⟨rfl, rfl⟩
theorem cstab_ct (s : CS) (b : Nat) (v : Value) : Ct prog 32 [.pointer (some ⟨b, 0, none⟩)] [CsBk b s v] (fun r H' => r = .int .i64 s.st ∧ H' = [CsBk b s v]) := by
 refine Ct.mk' func32 rfl rfl rfl (fun g R => ?_)
 try simp only [ca]
 simp only [na]
 try refine runS ?_
 exact D.fin1 [CsBk b s v] _ rfl rfl ⟨rfl, rfl⟩
theorem cbase_ct (s : CS) (b : Nat) (v : Value) : Ct prog 20 [.pointer (some ⟨b, 0, none⟩)] [CsBk b s v] (fun r H' => r = .int .i64 s.bs ∧ H' = [CsBk b s v]) := by
 refine Ct.mk' func20 rfl rfl rfl (fun g R => ?_)
 try simp only [ca]
 simp only [na]
 try refine runS ?_
 exact D.fin1 [CsBk b s v] _ rfl rfl ⟨rfl, rfl⟩
theorem cepoch_ct (s : CS) (b : Nat) (v : Value) : Ct prog 24 [.pointer (some ⟨b, 0, none⟩)] [CsBk b s v] (fun r H' => r = .int .i64 (cfO s.co).ep ∧ H' = [CsBk b s v]) := by
 refine Ct.mk' func24 rfl rfl rfl (fun g R => ?_)
 try simp only [ca]
 simp only [na]
 try refine runS ?_
 exact D.fin1 [CsBk b s v] _ rfl rfl ⟨rfl, rfl⟩
theorem cconfig_ct (s : CS) (b : Nat) (v : Value) : Ct prog 18 [.pointer (some ⟨b, 0, none⟩)] [CsBk b s v] (fun r H' => r = .agg (List.toArray (cfO s.co).enc) ∧ H' = [CsBk b s v]) := by
 refine Ct.mk' func18 rfl rfl rfl (fun g R => ?_)
 try simp only [ca]
 simp only [na]
 repeat' (first | refine runS ?_ | refine al (fun _ => ?_) | refine lAN (s.cells v) (cfO s.co).enc rfl ?_ | refine sGW Cfg.z.enc (cfO s.co).enc rfl rfl ?_ | fail)
 exact D.finR1 [CsBk b s v] _ rfl (.cellA rfl rfl .nil) ⟨rfl, rfl⟩
theorem cloneE_ct {xs : List Ent} {v : Value} {h : Hp} (hs : Rs xs v h) (hl : xs.length ≤ 1000000) :
  Ct prog 63 [v] [h] (fun r H' => ∃ h', IsSl 43 xs r h' ∧ H' = [h', h]) := by
 obtain ⟨p, c, rfl⟩ := hs.len
 refine Ct.mk' func63 rfl rfl rfl (fun g R => ?_)
 try simp only [ca]
 simp only [na]
 cases p with
 | none =>
  have hx : xs = [] := by
   obtain ⟨a, c', e, _, f⟩ := hs
   cases e
   cases xs with
   | nil => rfl
   | cons y r => obtain ⟨b, off, e, _⟩ := f 0 y rfl; cases e
  subst hx
  repeat' (first | refine run ?_ | refine WX.eqlN rfl rfl rfl ?_ | fail)
  exact D.fin1 [[], h] _ rfl rfl ⟨_, IsSl.nil _, rfl⟩
 | some a =>
  repeat' (first | refine run ?_ | refine WX.eqlN rfl rfl rfl ?_ | fail)
  refine I.bs ?_
  refine WX.lit (ys := ([] : List Ent)) (vs := []) rfl rfl rfl rfl rfl rfl (by decide) rfl (fun v1 h1 hs1 => ?_)
  try refine run ?_
  refine WX.app rfl rfl hs1 hs rfl rfl (by decide) (by simp only [length_nil]; omega) rfl (fun v2 h2 hs2 => ?_)
  rw [nil_append] at hs2
  try refine run ?_
  exact D.fin1 [h2, h] _ rfl rfl ⟨_, hs2, rfl⟩
theorem clog_ct (s : CS) (b : Nat) {v : Value} {hv : Hp} (hs : Rs s.lg v hv) (hl : s.lg.length ≤ 1000000) : Ct prog 16 [.pointer (some ⟨b, 0, none⟩)] [CsBk b s v, hv] (fun r H' => ∃ h', IsSl 43 s.lg r h' ∧ H' = [h', CsBk b s v, hv]) := by
 refine Ct.mk' func16 rfl rfl rfl (fun g R => ?_)
 try simp only [ca]
 simp only [na]
 try refine runS ?_
 refine WX.call rfl (cloneE_ct hs hl) rfl ?_
 rintro _ _ ⟨h1, hs1, rfl⟩
 simp only [ca, na]
 try refine runS ?_
 exact D.fin1 [h1, CsBk b s v, hv] _ rfl rfl ⟨h1, hs1, rfl⟩
theorem cat_ct (s : CS) (b : Nat) {v : Value} {hv : Hp} (hs : Rs s.lg v hv) (hl : s.lg.length ≤ 1000000) (i : Int) (hi : -4611686018427387904 ≤ i ∧ i ≤ 4611686018427387904) : Ct prog 87 [.pointer (some ⟨b, 0, none⟩), .int .i64 i] [CsBk b s v, hv]
   (fun r H' => r = .tuple #[.agg (List.toArray (if 1 ≤ i ∧ i ≤ s.len then s.lg.getD (i.toNat - 1) Ent.z else Ent.z).enc), .bool (decide (1 ≤ i ∧ i ≤ s.len))] ∧ H' = [CsBk b s v, hv]) := by
 have hlen : s.len = (s.lg.length : Int) := rfl
 refine Ct.mk' func87 rfl rfl rfl (fun g R => ?_)
 try simp only [ca]
 simp only [na]
 by_cases h1 : 1 ≤ i
 ·by_cases h2 : i ≤ s.len
  ·obtain ⟨x, hx⟩ : ∃ x, s.lg[(i - 1).toNat]? = some x := ⟨_, List.getElem?_eq_getElem (by omega)⟩
   have e1 : (if 1 ≤ i ∧ i ≤ s.len then s.lg.getD (i.toNat - 1) Ent.z else Ent.z) = x := by
    rw [if_pos ⟨h1, h2⟩, getD_eq_getElem?_getD, show i.toNat - 1 = (i - 1).toNat by omega, hx]; rfl
   rw [e1, decide_eq_true (⟨h1, h2⟩ : 1 ≤ i ∧ i ≤ s.len)]
   repeat' (first | refine runS ?_ | refine al (fun _ => ?_) | refine WX.loadEW rfl hs hx rfl rfl ?_ | refine sGW Ent.z.enc x.enc rfl rfl ?_ | fail)
   exact D.finR [CsBk b s v, hv] _ rfl (.cellA rfl rfl (.tmp rfl .nil)) rfl ⟨rfl, rfl⟩
  ·rw [if_neg (fun h => h2 h.2), decide_eq_false (fun h => h2 h.2)]
   repeat' (first | refine runS ?_ | refine al (fun _ => ?_) | refine bdN (t := 43) Ent.z.enc ?_ | refine sGW Ent.z.enc Ent.z.enc rfl rfl ?_ | fail)
   exact D.finR [CsBk b s v, hv] _ rfl (.cellA rfl rfl (.tmp rfl .nil)) rfl ⟨rfl, rfl⟩
 ·rw [if_neg (fun h => h1 h.1), decide_eq_false (fun h => h1 h.1)]
  repeat' (first | refine runS ?_ | refine al (fun _ => ?_) | refine bdN (t := 43) Ent.z.enc ?_ | refine sGW Ent.z.enc Ent.z.enc rfl rfl ?_ | fail)
  exact D.finR [CsBk b s v, hv] _ rfl (.cellA rfl rfl (.tmp rfl .nil)) rfl ⟨rfl, rfl⟩
end Go.Proofs.YtejfahjgfedliaaGreat

namespace Go.Proofs.YtejfahjgfedliaaGreat
open Go Go.Sl Go.Proofs.Tryz
set_option maxRecDepth 10000 in
set_option maxHeartbeats 1000000 in
theorem cheard_ct {s : CS} (ok : CsOk s) (b : Nat) (v : Value) (fr ep du st : Int) :
  Ct prog 57 [.pointer (some ⟨b, 0, none⟩), .int .i64 fr, .int .i64 ep, .int .i64 du, .int .i64 st] [CsBk b s v] (fun r H' => r = .bool (s.heard fr ep du st).1 ∧ H' = [CsBk b (s.heard fr ep du st).2 v]) := by
 have hbh := behind_ct ok.co s.nd
 have hfu := fullO_ct ok.co fr
 by_cases hT : ep = (cfO s.co).ep ∧ 0 ≤ fr ∧ fr = behindO s.co s.nd
 ·have e0 : s.heard fr ep du st = (true, (s.heard0 fr (mn du s.du) (mn st s.du)).settle) := if_pos hT
  rw [e0]
  obtain ⟨t1, t2, t3⟩ := hT
  generalize behindO s.co s.nd = bh at hbh t3
  refine Ct.mk' func57 rfl rfl rfl (fun g R => ?_)
  try simp only [ca]
  simp only [na]
  try refine runS ?_
  cases hf : fullO s.co fr with
  | true =>
   rw [hf] at hfu
   have e1 : s.heard0 fr (mn du s.du) (mn st s.du) = { s with ak := mx s.ak (mn du s.du), st := mx s.st (mn st s.du) } := if_pos hf
   rw [e1]
   skip
   refine W.quiet Tryz.mix (by kernel_rfl) ?_
   skip
   repeat' (first | refine runS ?_ | refine lAN (t := 34) (s.cells v) (cfO s.co).enc rfl ?_ | refine WX.callQ rfl hbh rfl ?_ | fail)
   refine W.quiet Tryz.mix (by kernel_rfl) ?_
   try refine runS ?_
   refine I.st ?_
   refine stN (s.cells v) (CS.cells { s with ak := mx s.ak (mn du s.du) } v) rfl rfl ?_
   repeat' (first | refine runS ?_ | refine lAN (t := 34) (CS.cells { s with ak := mx s.ak (mn du s.du) } v) (cfO s.co).enc rfl ?_ | refine WX.callQ rfl hfu rfl ?_ | fail)
   refine I.st ?_
   refine stN (CS.cells { s with ak := mx s.ak (mn du s.du) } v) (CS.cells { s with ak := mx s.ak (mn du s.du), st := mx s.st (mn st s.du) } v) rfl rfl ?_
   try refine runS ?_
   refine WX.call rfl (settle_ct (s := { s with ak := mx s.ak (mn du s.du), st := mx s.st (mn st s.du) }) ok.co b v) rfl ?_
   rintro _ _ ⟨rfl, rfl⟩
   simp only [ca, na]
   try refine runS ?_
   exact D.fin1 [CsBk b (CS.settle ({ s with ak := mx s.ak (mn du s.du), st := mx s.st (mn st s.du) })) v] _ rfl rfl ⟨rfl, rfl⟩
  | false =>
   rw [hf] at hfu
   cases hsu : s.su with
   | true =>
    have e1 : s.heard0 fr (mn du s.du) (mn st s.du) = { s with ak := mx s.ak (mn du s.du), su := true, st := mx (mx s.st s.bs) (mn du s.du) } := by unfold CS.heard0; rw [if_neg (by rw [hf]; decide), if_pos (.inl hsu)]
    rw [e1]
    clear e0 e1
    skip
    refine W.quiet Tryz.mix (by kernel_rfl) ?_
    skip
    repeat' (first | refine runS ?_ | refine lAN (t := 34) (s.cells v) (cfO s.co).enc rfl ?_ | refine WX.callQ rfl hbh rfl ?_ | fail)
    refine W.quiet Tryz.mix (by kernel_rfl) ?_
    try refine runS ?_
    refine I.st ?_
    refine stN (s.cells v) (CS.cells { s with ak := mx s.ak (mn du s.du) } v) rfl rfl ?_
    repeat' (first | refine runS ?_ | refine lAN (t := 34) (CS.cells { s with ak := mx s.ak (mn du s.du) } v) (cfO s.co).enc rfl ?_ | refine WX.callQ rfl hfu rfl ?_ | fail)
    refine WX.as 77 (.bool true) rfl (by rw [hsu]) ?_
    skip
    try refine runS ?_
    refine I.st ?_
    refine stN (CS.cells { s with ak := mx s.ak (mn du s.du) } v) (CS.cells { s with ak := mx s.ak (mn du s.du), su := true } v) rfl rfl ?_
    try refine runS ?_
    refine W.mixN 8 (List.replicate 11 true) [CsBk b { s with ak := mx s.ak (mn du s.du), su := true } v] Tryz.mix (by kernel_rfl) ?_
    repeat' (first | refine runS ?_ | refine WX.max3 rfl rfl rfl rfl ?_ | fail)
    refine I.st ?_
    refine stN (CS.cells { s with ak := mx s.ak (mn du s.du), su := true } v) (CS.cells { s with ak := mx s.ak (mn du s.du), su := true, st := mx (mx s.st s.bs) (mn du s.du) } v) rfl rfl ?_
    try refine runS ?_
    refine WX.call rfl (settle_ct (s := { s with ak := mx s.ak (mn du s.du), su := true, st := mx (mx s.st s.bs) (mn du s.du) }) ok.co b v) rfl ?_
    rintro _ _ ⟨rfl, rfl⟩
    simp only [ca, na]
    try refine runS ?_
    exact D.fin1 [CsBk b (CS.settle ({ s with ak := mx s.ak (mn du s.du), su := true, st := mx (mx s.st s.bs) (mn du s.du) })) v] _ rfl rfl ⟨rfl, rfl⟩
   | false =>
    by_cases hw : (if s.du < du then s.du else du) ≥ s.ow
    ·have e1 : s.heard0 fr (mn du s.du) (mn st s.du) = { s with ak := mx s.ak (mn du s.du), su := true, st := mx (mx s.st s.bs) (mn du s.du) } := by unfold CS.heard0; rw [if_neg (by rw [hf]; decide), if_pos (.inr hw)]
     rw [e1]
     clear e0 e1
     skip
     refine W.quiet Tryz.mix (by kernel_rfl) ?_
     skip
     repeat' (first | refine runS ?_ | refine lAN (t := 34) (s.cells v) (cfO s.co).enc rfl ?_ | refine WX.callQ rfl hbh rfl ?_ | fail)
     refine W.quiet Tryz.mix (by kernel_rfl) ?_
     try refine runS ?_
     refine I.st ?_
     refine stN (s.cells v) (CS.cells { s with ak := mx s.ak (mn du s.du) } v) rfl rfl ?_
     repeat' (first | refine runS ?_ | refine lAN (t := 34) (CS.cells { s with ak := mx s.ak (mn du s.du) } v) (cfO s.co).enc rfl ?_ | refine WX.callQ rfl hfu rfl ?_ | fail)
     refine WX.as 77 (.bool false) rfl (by rw [hsu]) ?_
     skip
     try refine runS ?_
     refine I.st ?_
     refine stN (CS.cells { s with ak := mx s.ak (mn du s.du) } v) (CS.cells { s with ak := mx s.ak (mn du s.du), su := true } v) rfl rfl ?_
     try refine runS ?_
     refine W.mixN 8 (List.replicate 11 true) [CsBk b { s with ak := mx s.ak (mn du s.du), su := true } v] Tryz.mix (by kernel_rfl) ?_
     repeat' (first | refine runS ?_ | refine WX.max3 rfl rfl rfl rfl ?_ | fail)
     refine I.st ?_
     refine stN (CS.cells { s with ak := mx s.ak (mn du s.du), su := true } v) (CS.cells { s with ak := mx s.ak (mn du s.du), su := true, st := mx (mx s.st s.bs) (mn du s.du) } v) rfl rfl ?_
     try refine runS ?_
     refine WX.call rfl (settle_ct (s := { s with ak := mx s.ak (mn du s.du), su := true, st := mx (mx s.st s.bs) (mn du s.du) }) ok.co b v) rfl ?_
     rintro _ _ ⟨rfl, rfl⟩
     simp only [ca, na]
     try refine runS ?_
     exact D.fin1 [CsBk b (CS.settle ({ s with ak := mx s.ak (mn du s.du), su := true, st := mx (mx s.st s.bs) (mn du s.du) })) v] _ rfl rfl ⟨rfl, rfl⟩
    ·have e1 : s.heard0 fr (mn du s.du) (mn st s.du) = { s with ak := mx s.ak (mn du s.du) } := by
      unfold CS.heard0; rw [if_neg (by rw [hf]; decide), if_neg (fun h => h.elim (fun h => by rw [hsu] at h; cases h) hw)]
     rw [e1]
     clear e0 e1
     skip
     refine W.quiet Tryz.mix (by kernel_rfl) ?_
     skip
     repeat' (first | refine runS ?_ | refine lAN (t := 34) (s.cells v) (cfO s.co).enc rfl ?_ | refine WX.callQ rfl hbh rfl ?_ | fail)
     refine W.quiet Tryz.mix (by kernel_rfl) ?_
     try refine runS ?_
     refine I.st ?_
     refine stN (s.cells v) (CS.cells { s with ak := mx s.ak (mn du s.du) } v) rfl rfl ?_
     repeat' (first | refine runS ?_ | refine lAN (t := 34) (CS.cells { s with ak := mx s.ak (mn du s.du) } v) (cfO s.co).enc rfl ?_ | refine WX.callQ rfl hfu rfl ?_ | fail)
     refine WX.as 77 (.bool false) rfl (by rw [hsu]) ?_
     try refine runS ?_
     refine WX.call rfl (settle_ct (s := { s with ak := mx s.ak (mn du s.du) }) ok.co b v) rfl ?_
     rintro _ _ ⟨rfl, rfl⟩
     simp only [ca, na]
     try refine runS ?_
     exact D.fin1 [CsBk b (CS.settle ({ s with ak := mx s.ak (mn du s.du) })) v] _ rfl rfl ⟨rfl, rfl⟩
 ·have e0 : s.heard fr ep du st = (false, s) := if_neg hT
  rw [e0]
  clear e0
  refine Ct.mk' func57 rfl rfl rfl (fun g R => ?_)
  try simp only [ca]
  simp only [na]
  try refine runS ?_
  refine W.quiet Tryz.mix (by kernel_rfl) ?_
  by_cases t1 : ep = (cfO s.co).ep
  rotate_left
  ·skip
   skip
   try refine runS ?_
   exact D.fin1 [CsBk b s v] _ rfl rfl ⟨rfl, rfl⟩
  by_cases t2 : 0 ≤ fr
  rotate_left
  ·skip
   skip
   try refine runS ?_
   exact D.fin1 [CsBk b s v] _ rfl rfl ⟨rfl, rfl⟩
  by_cases t3 : fr = behindO s.co s.nd
  ·exact absurd ⟨t1, t2, t3⟩ hT
  ·skip
   skip
   repeat' (first | refine runS ?_ | refine lAN (t := 34) (s.cells v) (cfO s.co).enc rfl ?_ | refine WX.callQ rfl hbh rfl ?_ | fail)
   exact D.fin1 [CsBk b s v] _ rfl rfl ⟨rfl, rfl⟩
theorem rightC_ch {x : Cfg} (h : RightC x) : ∃ c, x = c.cfg ∧ ChOk c ∧ chOf x = c := ⟨chOf x, h.2.1.symm, h.2.2, rfl⟩
set_option maxRecDepth 10000 in
set_option maxHeartbeats 1000000 in
theorem crestore_ct (dc rg nd : Int) (x : Cfg) (sn bs : Int) {es : List Ent} {u : Value} {h : Hp} (hs : Rs es u h) (hl : es.length ≤ 1000000) :
  Ct prog 61 [.int .i64 dc, .int .i64 rg, .int .i64 nd, .agg (List.toArray x.enc), .int .i64 sn, .int .i64 bs, u] [h]
   (fun r H' => ∃ b v hv, r = .pointer (some ⟨b, 0, none⟩) ∧ H' = [CsBk b (CS.restore dc rg nd x sn bs es) v, hv, h] ∧ IsSl 43 (CS.restore dc rg nd x sn bs es).lg v hv) := by
 have hlg : (CS.restore dc rg nd x sn bs es).lg = es := (settle_same (CS.restore0 dc rg nd x sn bs es)).2.2.2.2.2.2.1
 have hrt := rightG_ct x
 by_cases hR : RightC x
 ·rw [decide_eq_true hR] at hrt
  obtain ⟨c, hcx, okc, hch⟩ := rightC_ch hR
  have hr0 : CS.restore dc rg nd x sn bs es = CS.settle ⟨dc, rg, nd, some c, sn, mx 0 (mn bs (es.length : Int)), es, (es.length : Int), 0, 0, (es.length : Int), false⟩ := by
   unfold CS.restore CS.restore0; rw [if_pos hR, hch]
  have hO : ChO (some c) := ChO.some okc
  rw [hr0] at hlg ⊢
  subst hcx
  clear hch hr0 hR
  refine Ct.mk' func61 rfl rfl rfl (fun g R => ?_)
  try simp only [ca]
  simp only [na]
  repeat' (first | refine runS ?_ | refine bx rfl (fun _ => ?_) | refine lAN c.cfg.enc c.cfg.enc rfl ?_ | refine WX.callQ rfl hrt rfl ?_ | fail)
  rename_i b10
  refine WX.hp (H' := [CfBk b10 (cfO (some c)), h, R]) rfl ?_
  refine WX.call rfl (cnew_ct dc rg nd) rfl ?_
  rintro _ _ ⟨b, rfl, rfl⟩
  simp only [ca, na]
  try refine runS ?_
  refine W.mixN 8 [true, true, true, true, true, true, false, true, true, false, true, true, false] [CfBk b10 (cfO (some c))] Tryz.mix (by kernel_rfl) ?_
  repeat' (first | refine runS ?_ | refine lAN (cfO (some c)).enc (cfO (some c)).enc rfl ?_ | fail)
  refine WX.call rfl (cloneE_ct hs (by omega)) rfl ?_
  rintro _ _ ⟨h1, hs1, rfl⟩
  obtain ⟨p1, c1, e1⟩ := hs1.rs.len
  subst e1
  simp only [ca, na]
  try refine runS ?_
  refine I.st ?_
  refine sGN ((CS.new dc rg nd).cells (.slice none 0 0)) (cfO (some c)).enc (CS.cells ⟨dc, rg, nd, (some c), 0, 0, [], 0, 0, 0, 0, false⟩ (.slice none 0 0)) rfl rfl ?_
  try refine runS ?_
  refine I.st ?_
  refine stN (CS.cells ⟨dc, rg, nd, (some c), 0, 0, [], 0, 0, 0, 0, false⟩ (.slice none 0 0)) (CS.cells ⟨dc, rg, nd, (some c), sn, 0, [], 0, 0, 0, 0, false⟩ (.slice none 0 0)) rfl rfl ?_
  try refine runS ?_
  refine I.st ?_
  refine stN (CS.cells ⟨dc, rg, nd, (some c), sn, 0, [], 0, 0, 0, 0, false⟩ (.slice none 0 0)) (CS.cells ⟨dc, rg, nd, (some c), sn, 0, es, 0, 0, 0, 0, false⟩ (.slice p1 es.length c1)) rfl rfl ?_
  try refine runS ?_
  refine I.st ?_
  refine stN (CS.cells ⟨dc, rg, nd, (some c), sn, 0, es, 0, 0, 0, 0, false⟩ (.slice p1 es.length c1)) (CS.cells ⟨dc, rg, nd, (some c), sn, 0, es, (es.length : Int), 0, 0, 0, false⟩ (.slice p1 es.length c1)) rfl rfl ?_
  try refine runS ?_
  refine I.st ?_
  refine stN (CS.cells ⟨dc, rg, nd, (some c), sn, 0, es, (es.length : Int), 0, 0, 0, false⟩ (.slice p1 es.length c1)) (CS.cells ⟨dc, rg, nd, (some c), sn, 0, es, (es.length : Int), 0, 0, (es.length : Int), false⟩ (.slice p1 es.length c1)) rfl rfl ?_
  try refine runS ?_
  refine I.st ?_
  refine stN (CS.cells ⟨dc, rg, nd, (some c), sn, 0, es, (es.length : Int), 0, 0, (es.length : Int), false⟩ (.slice p1 es.length c1)) (CS.cells ⟨dc, rg, nd, (some c), sn, mx 0 (mn bs (es.length : Int)), es, (es.length : Int), 0, 0, (es.length : Int), false⟩ (.slice p1 es.length c1)) rfl rfl ?_
  try refine runS ?_
  refine WX.call rfl (settle_ct (s := ⟨dc, rg, nd, (some c), sn, mx 0 (mn bs (es.length : Int)), es, (es.length : Int), 0, 0, (es.length : Int), false⟩) hO b (.slice p1 es.length c1)) rfl ?_
  rintro _ _ ⟨rfl, rfl⟩
  simp only [ca, na]
  try refine runS ?_
  refine D.fin1 [CsBk b (CS.settle ⟨dc, rg, nd, (some c), sn, mx 0 (mn bs (es.length : Int)), es, (es.length : Int), 0, 0, (es.length : Int), false⟩) (.slice p1 es.length c1), h1, h] _ rfl rfl ⟨b, .slice p1 es.length c1, h1, rfl, ?_, ?_⟩
  ·rfl
  ·rw [hlg]; exact hs1
 ·rw [decide_eq_false hR] at hrt
  have hr0 : CS.restore dc rg nd x sn bs es = CS.settle ⟨dc, rg, nd, none, sn, mx 0 (mn bs (es.length : Int)), es, (es.length : Int), 0, 0, (es.length : Int), false⟩ := by
   unfold CS.restore CS.restore0; rw [if_neg hR]
  have hO : ChO none := ChO.none
  rw [hr0] at hlg ⊢
  clear hr0
  refine Ct.mk' func61 rfl rfl rfl (fun g R => ?_)
  try simp only [ca]
  simp only [na]
  repeat' (first | refine runS ?_ | refine bx rfl (fun _ => ?_) | refine lAN x.enc x.enc rfl ?_ | refine WX.callQ rfl hrt rfl ?_ | refine bdN (t := 34) Cfg.z.enc ?_ | refine sGW x.enc (cfO none).enc rfl rfl ?_ | fail)
  rename_i b10
  refine WX.hp (H' := [CfBk b10 (cfO none), h, R]) rfl ?_
  refine WX.call rfl (cnew_ct dc rg nd) rfl ?_
  rintro _ _ ⟨b, rfl, rfl⟩
  simp only [ca, na]
  try refine runS ?_
  refine W.mixN 8 [true, true, true, true, true, true, false, true, true, false, true, true, false] [CfBk b10 (cfO none)] Tryz.mix (by kernel_rfl) ?_
  repeat' (first | refine runS ?_ | refine lAN (cfO none).enc (cfO none).enc rfl ?_ | fail)
  refine WX.call rfl (cloneE_ct hs (by omega)) rfl ?_
  rintro _ _ ⟨h1, hs1, rfl⟩
  obtain ⟨p1, c1, e1⟩ := hs1.rs.len
  subst e1
  simp only [ca, na]
  try refine runS ?_
  refine I.st ?_
  refine sGN ((CS.new dc rg nd).cells (.slice none 0 0)) (cfO none).enc (CS.cells ⟨dc, rg, nd, none, 0, 0, [], 0, 0, 0, 0, false⟩ (.slice none 0 0)) rfl rfl ?_
  try refine runS ?_
  refine I.st ?_
  refine stN (CS.cells ⟨dc, rg, nd, none, 0, 0, [], 0, 0, 0, 0, false⟩ (.slice none 0 0)) (CS.cells ⟨dc, rg, nd, none, sn, 0, [], 0, 0, 0, 0, false⟩ (.slice none 0 0)) rfl rfl ?_
  try refine runS ?_
  refine I.st ?_
  refine stN (CS.cells ⟨dc, rg, nd, none, sn, 0, [], 0, 0, 0, 0, false⟩ (.slice none 0 0)) (CS.cells ⟨dc, rg, nd, none, sn, 0, es, 0, 0, 0, 0, false⟩ (.slice p1 es.length c1)) rfl rfl ?_
  try refine runS ?_
  refine I.st ?_
  refine stN (CS.cells ⟨dc, rg, nd, none, sn, 0, es, 0, 0, 0, 0, false⟩ (.slice p1 es.length c1)) (CS.cells ⟨dc, rg, nd, none, sn, 0, es, (es.length : Int), 0, 0, 0, false⟩ (.slice p1 es.length c1)) rfl rfl ?_
  try refine runS ?_
  refine I.st ?_
  refine stN (CS.cells ⟨dc, rg, nd, none, sn, 0, es, (es.length : Int), 0, 0, 0, false⟩ (.slice p1 es.length c1)) (CS.cells ⟨dc, rg, nd, none, sn, 0, es, (es.length : Int), 0, 0, (es.length : Int), false⟩ (.slice p1 es.length c1)) rfl rfl ?_
  try refine runS ?_
  refine I.st ?_
  refine stN (CS.cells ⟨dc, rg, nd, none, sn, 0, es, (es.length : Int), 0, 0, (es.length : Int), false⟩ (.slice p1 es.length c1)) (CS.cells ⟨dc, rg, nd, none, sn, mx 0 (mn bs (es.length : Int)), es, (es.length : Int), 0, 0, (es.length : Int), false⟩ (.slice p1 es.length c1)) rfl rfl ?_
  try refine runS ?_
  refine WX.call rfl (settle_ct (s := ⟨dc, rg, nd, none, sn, mx 0 (mn bs (es.length : Int)), es, (es.length : Int), 0, 0, (es.length : Int), false⟩) hO b (.slice p1 es.length c1)) rfl ?_
  rintro _ _ ⟨rfl, rfl⟩
  simp only [ca, na]
  try refine runS ?_
  refine D.fin1 [CsBk b (CS.settle ⟨dc, rg, nd, none, sn, mx 0 (mn bs (es.length : Int)), es, (es.length : Int), 0, 0, (es.length : Int), false⟩) (.slice p1 es.length c1), h1, h] _ rfl rfl ⟨b, .slice p1 es.length c1, h1, rfl, ?_, ?_⟩
  ·rfl
  ·rw [hlg]; exact hs1
end Go.Proofs.YtejfahjgfedliaaGreat

namespace Go.Proofs.YtejfahjgfedliaaGreat
open Go Go.Sl Go.Proofs.Tryz List
set_option maxRecDepth 10000 in
set_option maxHeartbeats 1000000 in
theorem center_ct {s : CS} (ok : CsOk s) (b : Nat) {v : Value} {hv : Hp} (hs : IsSl 43 s.lg v hv) (x : Cfg) :
  Ct prog 81 [.pointer (some ⟨b, 0, none⟩), .agg (List.toArray x.enc)] [CsBk b s v, hv] (fun r H' => r = .tuple #[.bool (s.enter x).1.1, .int .i64 (s.enter x).1.2] ∧ CsPost (s.enter x).2 b H') := by
 have hr := hs.rs
 have hrt := rightG_ct x
 by_cases hR : RightC x
 rotate_left
 ·rw [decide_eq_false hR] at hrt
  have e0 : s.enter x = ((false, 1), s) := if_pos hR
  rw [e0]
  refine Ct.mk' func81 rfl rfl rfl (fun g R => ?_)
  try simp only [ca]
  simp only [na]
  repeat' (first | refine runS ?_ | refine bx rfl (fun _ => ?_) | refine lAN x.enc x.enc rfl ?_ | refine WX.callQ rfl hrt rfl ?_ | fail)
  exact D.fin2 [CsBk b s v, hv] _ rfl rfl rfl ⟨rfl, v, hv, rfl, hs⟩
 rw [decide_eq_true hR] at hrt
 by_cases hep : x.ep ≤ (cfO s.co).ep
 ·have e0 : s.enter x = ((false, 80), s) := by unfold CS.enter; rw [if_neg (fun h => h hR), if_pos hep]
  rw [e0]
  refine Ct.mk' func81 rfl rfl rfl (fun g R => ?_)
  try simp only [ca]
  simp only [na]
  repeat' (first | refine runS ?_ | refine bx rfl (fun _ => ?_) | refine lAN x.enc x.enc rfl ?_ | refine WX.callQ rfl hrt rfl ?_ | fail)
  refine W.quiet Tryz.mix (by kernel_rfl) ?_
  try refine runS ?_
  exact D.fin2 [CsBk b s v, hv] _ rfl rfl rfl ⟨rfl, v, hv, rfl, hs⟩
 have e0 : s.enter x = ((s.resets x, 0), (s.enter0 x).settle) := by unfold CS.enter; rw [if_neg (fun h => h hR), if_neg hep]
 rw [e0]
 obtain ⟨c, hcx, okc, hch⟩ := rightC_ch hR
 have hsi := sinceO_ct (ChO.some okc) s.nd
 subst hcx
 by_cases h1 : sinceO (some c) s.nd ≠ 0 ∧ sinceO (some c) s.nd ≠ s.sn
 ·have e1 : s.enter0 c.cfg = ⟨s.dc, s.rg, s.nd, some c, sinceO (some c) s.nd, 0, [], 0, 0, 0, 0, true⟩ := by unfold CS.enter0; rw [hch, if_pos h1]
  have e2 : s.resets c.cfg = true := by unfold CS.resets; rw [hch]; exact decide_eq_true h1
  rw [e1, e2]
  obtain ⟨k1, k2⟩ := h1
  clear e0 e1 e2 hch
  generalize sinceO (some c) s.nd = z at hsi k1 k2 ⊢
  refine Ct.mk' func81 rfl rfl rfl (fun g R => ?_)
  try simp only [ca]
  simp only [na]
  repeat' (first | refine runS ?_ | refine bx rfl (fun _ => ?_) | refine lAN c.cfg.enc c.cfg.enc rfl ?_ | refine WX.callQ rfl hrt rfl ?_ | fail)
  rename_i b3
  refine W.quiet Tryz.mix (by kernel_rfl) ?_
  try refine runS ?_
  refine W.quiet Tryz.mix (by kernel_rfl) ?_
  repeat' (first | refine runS ?_ | refine lAN c.cfg.enc c.cfg.enc rfl ?_ | refine WX.callQ rfl hsi rfl ?_ | fail)
  refine I.st ?_
  refine stN (CS.cells s v) (CS.cells ⟨s.dc, s.rg, s.nd, s.co, s.sn, s.bs, [], s.du, s.st, s.ak, s.ow, s.su⟩ (.slice none 0 0)) rfl rfl ?_
  try refine runS ?_
  refine I.st ?_
  refine stN (CS.cells ⟨s.dc, s.rg, s.nd, s.co, s.sn, s.bs, [], s.du, s.st, s.ak, s.ow, s.su⟩ (.slice none 0 0)) (CS.cells ⟨s.dc, s.rg, s.nd, s.co, s.sn, s.bs, [], s.du, 0, s.ak, s.ow, s.su⟩ (.slice none 0 0)) rfl rfl ?_
  try refine runS ?_
  refine I.st ?_
  refine stN (CS.cells ⟨s.dc, s.rg, s.nd, s.co, s.sn, s.bs, [], s.du, 0, s.ak, s.ow, s.su⟩ (.slice none 0 0)) (CS.cells ⟨s.dc, s.rg, s.nd, s.co, z, s.bs, [], s.du, 0, s.ak, s.ow, s.su⟩ (.slice none 0 0)) rfl rfl ?_
  skip
  repeat' (first | refine runS ?_ | refine lAN c.cfg.enc c.cfg.enc rfl ?_ | fail)
  refine I.st ?_
  refine sGN (CS.cells ⟨s.dc, s.rg, s.nd, s.co, z, s.bs, ([] : List Ent), s.du, 0, s.ak, s.ow, s.su⟩ (.slice none 0 0)) c.cfg.enc (CS.cells ⟨s.dc, s.rg, s.nd, some c, z, s.bs, ([] : List Ent), s.du, 0, s.ak, s.ow, s.su⟩ (.slice none 0 0)) rfl rfl ?_
  try refine runS ?_
  have hc1 : ∀ (g : World) w, Cf g (fun i : Int => [CsBk b ⟨s.dc, s.rg, s.nd, some c, z, s.bs, ([] : List Ent), i, 0, s.ak, s.ow, s.su⟩ (.slice none 0 0)]) w → w.cell? ⟨b, 0 + 18, none⟩ = some (.slice none 0 0) := fun g w hw => by
   obtain ⟨i, h⟩ := hw
   have h1 := h.2.2 b _ (mem_cons_self ..)
   rw [cell_bk h1]; rfl
  refine W.hp (H' := [CfBk b3 c.cfg, CsBk b ⟨s.dc, s.rg, s.nd, some c, z, s.bs, ([] : List Ent), s.du, 0, s.ak, s.ow, s.su⟩ (.slice none 0 0), hv, R]) rfl ?_
  refine W.mixC (List.replicate 14 true ++ [false]) (Cf g (fun i : Int => [CsBk b ⟨s.dc, s.rg, s.nd, some c, z, s.bs, ([] : List Ent), i, 0, s.ak, s.ow, s.su⟩ (.slice none 0 0)])) (fun w h => Cf.of s.du h) Tryz.mix (by kernel_rfl) ?_
  repeat' (first | refine runS ?_ | refine WN.load rfl (hc1 g) rfl ?_ | refine WN.un0 (fun _ h => Cf.amb h) ?_ | refine WN.back0 ?_ | refine WN.an ?_ | fail)
  refine I.st ?_
  refine stN (CS.cells ⟨s.dc, s.rg, s.nd, some c, z, s.bs, ([] : List Ent), s.du, 0, s.ak, s.ow, s.su⟩ (.slice none 0 0)) (CS.cells ⟨s.dc, s.rg, s.nd, some c, z, s.bs, ([] : List Ent), (0 : Int), 0, s.ak, s.ow, s.su⟩ (.slice none 0 0)) rfl rfl ?_
  try refine runS ?_
  refine WN.back (fun w h => Cf.of (0 : Int) h) ?_
  repeat' (first | refine runS ?_ | refine WN.nil ?_ | fail)
  refine I.st ?_
  refine stN (CS.cells ⟨s.dc, s.rg, s.nd, some c, z, s.bs, ([] : List Ent), (0 : Int), 0, s.ak, s.ow, s.su⟩ (.slice none 0 0)) (CS.cells ⟨s.dc, s.rg, s.nd, some c, z, (0 : Int), ([] : List Ent), (0 : Int), 0, s.ak, s.ow, s.su⟩ (.slice none 0 0)) rfl rfl ?_
  try refine runS ?_
  refine I.st ?_
  refine stN (CS.cells ⟨s.dc, s.rg, s.nd, some c, z, (0 : Int), ([] : List Ent), (0 : Int), 0, s.ak, s.ow, s.su⟩ (.slice none 0 0)) (CS.cells ⟨s.dc, s.rg, s.nd, some c, z, (0 : Int), ([] : List Ent), (0 : Int), 0, 0, s.ow, s.su⟩ (.slice none 0 0)) rfl rfl ?_
  try refine runS ?_
  refine I.st ?_
  refine stN (CS.cells ⟨s.dc, s.rg, s.nd, some c, z, (0 : Int), ([] : List Ent), (0 : Int), 0, 0, s.ow, s.su⟩ (.slice none 0 0)) (CS.cells ⟨s.dc, s.rg, s.nd, some c, z, (0 : Int), ([] : List Ent), (0 : Int), 0, 0, 0, s.su⟩ (.slice none 0 0)) rfl rfl ?_
  try refine runS ?_
  refine I.st ?_
  refine stN (CS.cells ⟨s.dc, s.rg, s.nd, some c, z, (0 : Int), ([] : List Ent), (0 : Int), 0, 0, 0, s.su⟩ (.slice none 0 0)) (CS.cells ⟨s.dc, s.rg, s.nd, some c, z, (0 : Int), ([] : List Ent), (0 : Int), 0, 0, 0, true⟩ (.slice none 0 0)) rfl rfl ?_
  try refine runS ?_
  refine WX.call rfl (settle_ct (s := ⟨s.dc, s.rg, s.nd, some c, z, (0 : Int), ([] : List Ent), (0 : Int), 0, 0, 0, true⟩) (ChO.some okc) b (.slice none 0 0)) rfl ?_
  rintro _ _ ⟨rfl, rfl⟩
  simp only [ca, na]
  try refine runS ?_
  refine D.nilH ?_
  exact D.fin2 [CsBk b (CS.settle ⟨s.dc, s.rg, s.nd, some c, z, 0, [], 0, 0, 0, 0, true⟩) (.slice none 0 0), []] _ rfl rfl rfl ⟨rfl, _, [], rfl, by rw [(settle_same _).2.2.2.2.2.2.1]; exact IsSl.nil _⟩
 ·have e1 : s.enter0 c.cfg = ⟨s.dc, s.rg, s.nd, some c, s.sn, s.len, s.lg, s.len, s.st, 0, 0, true⟩ := by unfold CS.enter0; rw [hch, if_neg h1]
  have e2 : s.resets c.cfg = false := by unfold CS.resets; rw [hch]; exact decide_eq_false h1
  rw [e1, e2]
  clear e0 e1 e2 hch
  generalize sinceO (some c) s.nd = z at hsi h1
  refine Ct.mk' func81 rfl rfl rfl (fun g R => ?_)
  try simp only [ca]
  simp only [na]
  repeat' (first | refine runS ?_ | refine bx rfl (fun _ => ?_) | refine lAN c.cfg.enc c.cfg.enc rfl ?_ | refine WX.callQ rfl hrt rfl ?_ | fail)
  rename_i b3
  refine W.quiet Tryz.mix (by kernel_rfl) ?_
  try refine runS ?_
  refine W.quiet Tryz.mix (by kernel_rfl) ?_
  by_cases k1 : z ≠ 0
  ·have k2 : z = s.sn := Classical.byContradiction fun h => h1 ⟨k1, h⟩
   repeat' (first | refine runS ?_ | refine lAN c.cfg.enc c.cfg.enc rfl ?_ | refine WX.callQ rfl hsi rfl ?_ | fail)
   skip
   skip
   refine I.st ?_
   refine sGN (CS.cells ⟨s.dc, s.rg, s.nd, s.co, s.sn, s.bs, s.lg, s.du, s.st, s.ak, s.ow, s.su⟩ v) c.cfg.enc (CS.cells ⟨s.dc, s.rg, s.nd, some c, s.sn, s.bs, s.lg, s.du, s.st, s.ak, s.ow, s.su⟩ v) rfl rfl ?_
   try refine runS ?_
   have hc1 : ∀ (g : World) w, Cf g (fun i : Int => [CsBk b ⟨s.dc, s.rg, s.nd, some c, s.sn, s.bs, s.lg, i, s.st, s.ak, s.ow, s.su⟩ v]) w → w.cell? ⟨b, 0 + 18, none⟩ = some v := fun g w hw => by
    obtain ⟨i, h⟩ := hw
    have h1 := h.2.2 b _ (mem_cons_self ..)
    rw [cell_bk h1]; rfl
   refine W.hp (H' := [CfBk b3 c.cfg, CsBk b ⟨s.dc, s.rg, s.nd, some c, s.sn, s.bs, s.lg, s.du, s.st, s.ak, s.ow, s.su⟩ v, hv, R]) rfl ?_
   refine W.mixC (List.replicate 14 true ++ [false]) (Cf g (fun i : Int => [CsBk b ⟨s.dc, s.rg, s.nd, some c, s.sn, s.bs, s.lg, i, s.st, s.ak, s.ow, s.su⟩ v])) (fun w h => Cf.of s.du h) Tryz.mix (by kernel_rfl) ?_
   repeat' (first | refine runS ?_ | refine WN.load rfl (hc1 g) rfl ?_ | refine WN.un0 (fun _ h => Cf.amb h) ?_ | refine WN.back0 ?_ | refine WN.an ?_ | fail)
   refine I.st ?_
   refine stN (CS.cells ⟨s.dc, s.rg, s.nd, some c, s.sn, s.bs, s.lg, s.du, s.st, s.ak, s.ow, s.su⟩ v) (CS.cells ⟨s.dc, s.rg, s.nd, some c, s.sn, s.bs, s.lg, (s.len : Int), s.st, s.ak, s.ow, s.su⟩ v) rfl rfl ?_
   try refine runS ?_
   refine WN.back (fun w h => Cf.of (s.len : Int) h) ?_
   repeat' (first | refine runS ?_ | refine WN.nil ?_ | fail)
   refine I.st ?_
   refine stN (CS.cells ⟨s.dc, s.rg, s.nd, some c, s.sn, s.bs, s.lg, (s.len : Int), s.st, s.ak, s.ow, s.su⟩ v) (CS.cells ⟨s.dc, s.rg, s.nd, some c, s.sn, (s.len : Int), s.lg, (s.len : Int), s.st, s.ak, s.ow, s.su⟩ v) rfl rfl ?_
   try refine runS ?_
   refine I.st ?_
   refine stN (CS.cells ⟨s.dc, s.rg, s.nd, some c, s.sn, (s.len : Int), s.lg, (s.len : Int), s.st, s.ak, s.ow, s.su⟩ v) (CS.cells ⟨s.dc, s.rg, s.nd, some c, s.sn, (s.len : Int), s.lg, (s.len : Int), s.st, 0, s.ow, s.su⟩ v) rfl rfl ?_
   try refine runS ?_
   refine I.st ?_
   refine stN (CS.cells ⟨s.dc, s.rg, s.nd, some c, s.sn, (s.len : Int), s.lg, (s.len : Int), s.st, 0, s.ow, s.su⟩ v) (CS.cells ⟨s.dc, s.rg, s.nd, some c, s.sn, (s.len : Int), s.lg, (s.len : Int), s.st, 0, 0, s.su⟩ v) rfl rfl ?_
   try refine runS ?_
   refine I.st ?_
   refine stN (CS.cells ⟨s.dc, s.rg, s.nd, some c, s.sn, (s.len : Int), s.lg, (s.len : Int), s.st, 0, 0, s.su⟩ v) (CS.cells ⟨s.dc, s.rg, s.nd, some c, s.sn, (s.len : Int), s.lg, (s.len : Int), s.st, 0, 0, true⟩ v) rfl rfl ?_
   try refine runS ?_
   refine WX.call rfl (settle_ct (s := ⟨s.dc, s.rg, s.nd, some c, s.sn, (s.len : Int), s.lg, (s.len : Int), s.st, 0, 0, true⟩) (ChO.some okc) b v) rfl ?_
   rintro _ _ ⟨rfl, rfl⟩
   simp only [ca, na]
   try refine runS ?_
   exact D.fin2 [CsBk b (CS.settle ⟨s.dc, s.rg, s.nd, some c, s.sn, s.len, s.lg, s.len, s.st, 0, 0, true⟩) v, hv] _ rfl rfl rfl ⟨rfl, v, hv, rfl, by rw [(settle_same _).2.2.2.2.2.2.1]; exact hs⟩
  ·have k2 : z = 0 := Classical.not_not.1 k1
   repeat' (first | refine runS ?_ | refine lAN c.cfg.enc c.cfg.enc rfl ?_ | refine WX.callQ rfl hsi rfl ?_ | fail)
   skip
   skip
   refine I.st ?_
   refine sGN (CS.cells ⟨s.dc, s.rg, s.nd, s.co, s.sn, s.bs, s.lg, s.du, s.st, s.ak, s.ow, s.su⟩ v) c.cfg.enc (CS.cells ⟨s.dc, s.rg, s.nd, some c, s.sn, s.bs, s.lg, s.du, s.st, s.ak, s.ow, s.su⟩ v) rfl rfl ?_
   try refine runS ?_
   have hc1 : ∀ (g : World) w, Cf g (fun i : Int => [CsBk b ⟨s.dc, s.rg, s.nd, some c, s.sn, s.bs, s.lg, i, s.st, s.ak, s.ow, s.su⟩ v]) w → w.cell? ⟨b, 0 + 18, none⟩ = some v := fun g w hw => by
    obtain ⟨i, h⟩ := hw
    have h1 := h.2.2 b _ (mem_cons_self ..)
    rw [cell_bk h1]; rfl
   refine W.hp (H' := [CfBk b3 c.cfg, CsBk b ⟨s.dc, s.rg, s.nd, some c, s.sn, s.bs, s.lg, s.du, s.st, s.ak, s.ow, s.su⟩ v, hv, R]) rfl ?_
   refine W.mixC (List.replicate 14 true ++ [false]) (Cf g (fun i : Int => [CsBk b ⟨s.dc, s.rg, s.nd, some c, s.sn, s.bs, s.lg, i, s.st, s.ak, s.ow, s.su⟩ v])) (fun w h => Cf.of s.du h) Tryz.mix (by kernel_rfl) ?_
   repeat' (first | refine runS ?_ | refine WN.load rfl (hc1 g) rfl ?_ | refine WN.un0 (fun _ h => Cf.amb h) ?_ | refine WN.back0 ?_ | refine WN.an ?_ | fail)
   refine I.st ?_
   refine stN (CS.cells ⟨s.dc, s.rg, s.nd, some c, s.sn, s.bs, s.lg, s.du, s.st, s.ak, s.ow, s.su⟩ v) (CS.cells ⟨s.dc, s.rg, s.nd, some c, s.sn, s.bs, s.lg, (s.len : Int), s.st, s.ak, s.ow, s.su⟩ v) rfl rfl ?_
   try refine runS ?_
   refine WN.back (fun w h => Cf.of (s.len : Int) h) ?_
   repeat' (first | refine runS ?_ | refine WN.nil ?_ | fail)
   refine I.st ?_
   refine stN (CS.cells ⟨s.dc, s.rg, s.nd, some c, s.sn, s.bs, s.lg, (s.len : Int), s.st, s.ak, s.ow, s.su⟩ v) (CS.cells ⟨s.dc, s.rg, s.nd, some c, s.sn, (s.len : Int), s.lg, (s.len : Int), s.st, s.ak, s.ow, s.su⟩ v) rfl rfl ?_
   try refine runS ?_
   refine I.st ?_
   refine stN (CS.cells ⟨s.dc, s.rg, s.nd, some c, s.sn, (s.len : Int), s.lg, (s.len : Int), s.st, s.ak, s.ow, s.su⟩ v) (CS.cells ⟨s.dc, s.rg, s.nd, some c, s.sn, (s.len : Int), s.lg, (s.len : Int), s.st, 0, s.ow, s.su⟩ v) rfl rfl ?_
   try refine runS ?_
   refine I.st ?_
   refine stN (CS.cells ⟨s.dc, s.rg, s.nd, some c, s.sn, (s.len : Int), s.lg, (s.len : Int), s.st, 0, s.ow, s.su⟩ v) (CS.cells ⟨s.dc, s.rg, s.nd, some c, s.sn, (s.len : Int), s.lg, (s.len : Int), s.st, 0, 0, s.su⟩ v) rfl rfl ?_
   try refine runS ?_
   refine I.st ?_
   refine stN (CS.cells ⟨s.dc, s.rg, s.nd, some c, s.sn, (s.len : Int), s.lg, (s.len : Int), s.st, 0, 0, s.su⟩ v) (CS.cells ⟨s.dc, s.rg, s.nd, some c, s.sn, (s.len : Int), s.lg, (s.len : Int), s.st, 0, 0, true⟩ v) rfl rfl ?_
   try refine runS ?_
   refine WX.call rfl (settle_ct (s := ⟨s.dc, s.rg, s.nd, some c, s.sn, (s.len : Int), s.lg, (s.len : Int), s.st, 0, 0, true⟩) (ChO.some okc) b v) rfl ?_
   rintro _ _ ⟨rfl, rfl⟩
   simp only [ca, na]
   try refine runS ?_
   exact D.fin2 [CsBk b (CS.settle ⟨s.dc, s.rg, s.nd, some c, s.sn, s.len, s.lg, s.len, s.st, 0, 0, true⟩) v, hv] _ rfl rfl rfl ⟨rfl, v, hv, rfl, by rw [(settle_same _).2.2.2.2.2.2.1]; exact hs⟩
end Go.Proofs.YtejfahjgfedliaaGreat

namespace Go.Sl
open Go List
section
variable {g : World} {P : Program} {ops : Array Oper} {Q : Exit → Act → World → Prop} {q : Bool} {n d ty : Nat} {pos : String} {af : Array Edge} {rest : List Oper} {L : Fm} {H : HH} {v : Value}
theorem WX.ix1' {x y : Operand} {t e len j : Nat} {i : Int} {kd : IntKind} {cs : List Value} (hx : ev L x = some (.agg cs.toArray)) (hy : ev L y = some (.int kd i)) (hi : i = (j : Int)) [ht : TU P t (.array len e)] [tl : TL P e 1 false] (hj : j < len) (hc : cs[j]? = some v) (hd : Nat.blt d n = true)
  (k : WX q g P ops Q n rest ((d, v) :: L) H) : WX q g P ops Q n (⟨some d, .index t x y, ty, pos, af, none⟩ :: rest) L H := by
 subst hi; exact WX.ix1 hx hy hj hc hd k
end
end Go.Sl
namespace Go.Proofs.YtejfahjgfedliaaGreat
open Go Go.Sl List
theorem V3.put_at (v : V3) {k i : Nat} (hk : k < 3) (hi : i < 3) (x : Int) : (v.put k x).at i = if i = k then x else v.at i := by
 rcases (by omega : k = 0 ∨ k = 1 ∨ k = 2) with rfl | rfl | rfl <;> rcases (by omega : i = 0 ∨ i = 1 ∨ i = 2) with rfl | rfl | rfl <;> rfl
theorem colF_range (rg : Int) {es : List Ent} (h : ∀ e ∈ es, EntR e) {k : Nat} (hk : k < 3) : 0 ≤ (colF rg es).at k ∧ (colF rg es).at k ≤ MC := by
 have key : ∀ (es : List Ent) (c : V3), (∀ e ∈ es, EntR e) → (∀ i, i < 3 → 0 ≤ c.at i ∧ c.at i ≤ MC) → ∀ i, i < 3 → 0 ≤ (es.foldl (colStep rg) c).at i ∧ (es.foldl (colStep rg) c).at i ≤ MC := by
  intro es
  induction es with
  | nil => intro c _ hc; exact hc
  | cons e t ih =>
   intro c h hc
   refine ih _ (fun x hx => h x (mem_cons_of_mem _ hx)) fun i hi => ?_
   have he := h e (mem_cons_self ..)
   unfold colStep
   split
   ·rename_i hg
    have hd : e.dc.toNat < 3 := by have := hg.2.1; have := hg.2.2.1; omega
    rw [V3.put_at _ hd hi]
    split
    ·have h1 := hc e.dc.toNat hd
     have h2 := he.sq
     unfold mx
     split
     ·exact ⟨by omega, h2.2⟩
     ·exact h1
    ·exact hc i hi
   ·exact hc i hi
 refine key es V3.z h (fun i hi => ?_) k hk
 rcases (by omega : i = 0 ∨ i = 1 ∨ i = 2) with rfl | rfl | rfl <;> exact ⟨by decide, by decide⟩
end Go.Proofs.YtejfahjgfedliaaGreat

namespace Go.Proofs.YtejfahjgfedliaaGreat
open Go Go.Sl Go.Proofs.Tryz List
set_option maxRecDepth 10000 in
set_option maxHeartbeats 2000000 in
theorem cput_ct {s : CS} (ok : CsOk s) (b : Nat) {v : Value} {hv : Hp} (hs : IsSl 43 s.lg v hv) (key val : ByteArray) (dead : Bool) (deps : V9) (clock cl op : Int) :
  Ct prog 68 [.pointer (some ⟨b, 0, none⟩), .string key, .string val, .bool dead, .agg (List.toArray deps.enc), .int .i64 clock, .int .i64 cl, .int .i64 op] [CsBk b s v, hv]
   (fun r H' => r = .tuple #[.int .i64 (s.putS key val dead deps clock cl op).1.1, .int .i64 (s.putS key val dead deps clock cl op).1.2] ∧ CsPost (s.putS key val dead deps clock cl op).2 b H') := by
 have hr := hs.rs
 have hll := ok.len
 have hlen : s.len = (s.lg.length : Int) := rfl
 have hih := isHead_ct ok.co b v
 have hfo := cfound_ct s b hr (by omega) cl op
 have hcol := ccolumn_ct s b hr (by omega)
 have hbe := cbehind_ct s b hr (by omega) deps
 by_cases c1 : s.head
 rotate_left
 ·have e0 : s.putS key val dead deps clock cl op = ((0, 90), s) := if_pos c1
  rw [e0]
  rw [decide_eq_false c1] at hih
  refine Ct.mk' func68 rfl rfl rfl (fun g R => ?_)
  try simp only [ca]
  simp only [na]
  skip
  repeat' (first | refine runS ?_ | refine bx rfl (fun _ => ?_) | refine WX.callQ rfl hih rfl ?_ | fail)
  exact D.fin2 [CsBk b s v, hv] _ rfl rfl rfl ⟨rfl, v, hv, rfl, hs⟩
 rw [decide_eq_true c1] at hih
 by_cases c2 : 0 < foundE s.lg cl op
 ·have e0 : s.putS key val dead deps clock cl op = ((foundE s.lg cl op, 0), s) := by unfold CS.putS; rw [if_neg (fun h => h c1), if_pos c2]
  rw [e0]
  refine Ct.mk' func68 rfl rfl rfl (fun g R => ?_)
  try simp only [ca]
  simp only [na]
  skip
  repeat' (first | refine runS ?_ | refine bx rfl (fun _ => ?_) | refine WX.callQ rfl hih rfl ?_ | refine WX.callQ rfl hfo rfl ?_ | fail)
  exact D.fin2 [CsBk b s v, hv] _ rfl rfl rfl ⟨rfl, v, hv, rfl, hs⟩
 by_cases c3 : s.covers deps
 rotate_left
 ·have e0 : s.putS key val dead deps clock cl op = ((0, 91), s) := by unfold CS.putS; rw [if_neg (fun h => h c1), if_neg c2, if_pos c3]
  rw [e0]
  rw [decide_eq_true c3] at hbe
  by_cases hN : s.nextOk clock
  ·skip
   refine Ct.mk' func68 rfl rfl rfl (fun g R => ?_)
   try simp only [ca]
   simp only [na]
   skip
   repeat' (first | refine runS ?_ | refine bx rfl (fun _ => ?_) | refine WX.callQ rfl hih rfl ?_ | refine WX.callQ rfl hfo rfl ?_ | fail)
   rename_i b12
   refine I.bs ?_
   refine WX.lit (ys := [clock]) rfl rfl rfl rfl rfl rfl (by decide) rfl (fun v1 h1 hs1 => ?_)
   skip
   try refine runS ?_
   refine W.hp (H' := [h1, VcBk b12 deps, CsBk b s v, hv, R]) rfl ?_
   refine W.loop (α := Nat × Value × Hp) (fun x => x.1 ≤ s.lg.length ∧ IsSl 3 (clock :: (s.lg.take x.1).map (·.ct)) x.2.1 x.2.2) (fun x => [(0, .pointer (some ⟨b, 0, none⟩)), (1, .string key), (2, .string val), (3, .bool dead), (6, .int .i64 cl), (7, .int .i64 op), (12, .pointer (some ⟨b12, 0, none⟩)), (19, x.2.1), (41, v), (42, .int .i64 (s.lg.length : Int)), (43, .int .i64 (x.1 : Int))])
    (fun x => [x.2.2, VcBk b12 deps, CsBk b s v, hv, R]) (fun x => s.lg.length - x.1) (0, v1, h1) ⟨Nat.zero_le _, hs1⟩ (by repeat (first | exact Fsub.nil | refine Fsub.cons rfl ?_)) (Hsub.of_picks inferInstance) ?_
   rintro ⟨i, w, hw⟩ ⟨hi, hsw⟩
   simp only [] at hi hsw ⊢
   have hwl : (clock :: (s.lg.take i).map (·.ct)).length ≤ 257 := by rw [length_cons, length_map, length_take]; omega
   by_cases hlt : i < s.lg.length
   ·obtain ⟨x, hx⟩ : ∃ x, s.lg[i]? = some x := ⟨_, List.getElem?_eq_getElem hlt⟩
    repeat' (first | refine runS ?_ | refine al (fun _ => ?_) | refine WX.loadEW rfl hr hx rfl rfl ?_ | refine sGW Ent.z.enc x.enc rfl rfl ?_ | fail)
    refine I.bs ?_
    refine WX.lit (ys := [x.ct]) rfl rfl rfl rfl rfl rfl (by decide) rfl (fun v2 h2 hs2 => ?_)
    skip
    refine WX.app rfl rfl hsw hs2.rs rfl rfl (by decide) (by simp only [length_cons, length_nil] at hwl ⊢; omega) rfl (fun v3 h3 hs3 => ?_)
    have hs3 : IsSl 3 (clock :: (s.lg.take (i + 1)).map (·.ct)) v3 h3 := by rw [take_add_one, hx, map_append]; exact hs3
    try refine runS ?_
    exact D.rd (i + 1, v3, h3) ⟨by simp only []; omega, hs3⟩ (by simp only []; omega)
   obtain rfl : i = s.lg.length := by omega
   rw [take_length] at hsw hwl
   have hnx := next_ct s.dc s.rg hsw.rs (by omega)
   clear hsw hs1
   try refine runS ?_
   rw [decide_eq_true hN] at hnx
   skip
   refine W.mixA 8 [true, true, true, true, true, true, true, true, true, false, true, true, true, false, false] 13 [CsBk b s v] Tryz.mix (by kernel_rfl) rfl ?_
   skip
   repeat' (first | refine runS ?_ | refine al (fun _ => ?_) | refine WX.callQ rfl hnx rfl ?_ | refine WA.un ?_ | refine WA.backU ?_ | refine WA.back ?_ | refine WA.an ?_ ?_ | refine WA.nil ?_ | fail)
   all_goals
    skip
    skip
    rename_i b22
    refine WX.hp (H' := [[(b22, .cells (List.toArray [.int .i64 0, .int .i64 0, .int .i64 0]) 41 (0, 0))], hw, VcBk b12 deps, CsBk b s v, hv, R]) rfl ?_
    refine I.st ?_
    refine sGW [.int .i64 0, .int .i64 0, .int .i64 0] [.int .i64 (nextCt (clock :: s.lg.map (fun (e : Ent) => e.ct))), .int .i64 s.dc, .int .i64 s.rg] rfl rfl ?_
    skip
    repeat' (first | refine runS ?_ | refine lAN (t := 37) deps.enc deps.enc rfl ?_ | refine WX.callQ rfl hbe rfl ?_ | fail)
    exact D.fin2 [CsBk b s v, hv] _ rfl rfl rfl ⟨rfl, v, hv, rfl, hs⟩
  ·skip
   refine Ct.mk' func68 rfl rfl rfl (fun g R => ?_)
   try simp only [ca]
   simp only [na]
   skip
   repeat' (first | refine runS ?_ | refine bx rfl (fun _ => ?_) | refine WX.callQ rfl hih rfl ?_ | refine WX.callQ rfl hfo rfl ?_ | fail)
   rename_i b12
   refine I.bs ?_
   refine WX.lit (ys := [clock]) rfl rfl rfl rfl rfl rfl (by decide) rfl (fun v1 h1 hs1 => ?_)
   skip
   try refine runS ?_
   refine W.hp (H' := [h1, VcBk b12 deps, CsBk b s v, hv, R]) rfl ?_
   refine W.loop (α := Nat × Value × Hp) (fun x => x.1 ≤ s.lg.length ∧ IsSl 3 (clock :: (s.lg.take x.1).map (·.ct)) x.2.1 x.2.2) (fun x => [(0, .pointer (some ⟨b, 0, none⟩)), (1, .string key), (2, .string val), (3, .bool dead), (6, .int .i64 cl), (7, .int .i64 op), (12, .pointer (some ⟨b12, 0, none⟩)), (19, x.2.1), (41, v), (42, .int .i64 (s.lg.length : Int)), (43, .int .i64 (x.1 : Int))])
    (fun x => [x.2.2, VcBk b12 deps, CsBk b s v, hv, R]) (fun x => s.lg.length - x.1) (0, v1, h1) ⟨Nat.zero_le _, hs1⟩ (by repeat (first | exact Fsub.nil | refine Fsub.cons rfl ?_)) (Hsub.of_picks inferInstance) ?_
   rintro ⟨i, w, hw⟩ ⟨hi, hsw⟩
   simp only [] at hi hsw ⊢
   have hwl : (clock :: (s.lg.take i).map (·.ct)).length ≤ 257 := by rw [length_cons, length_map, length_take]; omega
   by_cases hlt : i < s.lg.length
   ·obtain ⟨x, hx⟩ : ∃ x, s.lg[i]? = some x := ⟨_, List.getElem?_eq_getElem hlt⟩
    repeat' (first | refine runS ?_ | refine al (fun _ => ?_) | refine WX.loadEW rfl hr hx rfl rfl ?_ | refine sGW Ent.z.enc x.enc rfl rfl ?_ | fail)
    refine I.bs ?_
    refine WX.lit (ys := [x.ct]) rfl rfl rfl rfl rfl rfl (by decide) rfl (fun v2 h2 hs2 => ?_)
    skip
    refine WX.app rfl rfl hsw hs2.rs rfl rfl (by decide) (by simp only [length_cons, length_nil] at hwl ⊢; omega) rfl (fun v3 h3 hs3 => ?_)
    have hs3 : IsSl 3 (clock :: (s.lg.take (i + 1)).map (·.ct)) v3 h3 := by rw [take_add_one, hx, map_append]; exact hs3
    try refine runS ?_
    exact D.rd (i + 1, v3, h3) ⟨by simp only []; omega, hs3⟩ (by simp only []; omega)
   obtain rfl : i = s.lg.length := by omega
   rw [take_length] at hsw hwl
   have hnx := next_ct s.dc s.rg hsw.rs (by omega)
   clear hsw hs1
   try refine runS ?_
   rw [decide_eq_false hN] at hnx
   skip
   refine W.mixA 8 [true, true, true, true, true, true, true, true, true, false, true, true, true, false, false] 13 [CsBk b s v] Tryz.mix (by kernel_rfl) rfl ?_
   skip
   repeat' (first | refine runS ?_ | refine al (fun _ => ?_) | refine WX.callQ rfl hnx rfl ?_ | refine WA.un ?_ | refine WA.backU ?_ | refine WA.back ?_ | refine WA.an ?_ ?_ | refine WA.nil ?_ | fail)
   all_goals
    skip
    skip
    rename_i b22
    refine WX.hp (H' := [[(b22, .cells (List.toArray [.int .i64 0, .int .i64 0, .int .i64 0]) 41 (0, 0))], hw, VcBk b12 deps, CsBk b s v, hv, R]) rfl ?_
    refine I.st ?_
    refine sGW [.int .i64 0, .int .i64 0, .int .i64 0] [.int .i64 0, .int .i64 0, .int .i64 0] rfl rfl ?_
    skip
    repeat' (first | refine runS ?_ | refine lAN (t := 37) deps.enc deps.enc rfl ?_ | refine WX.callQ rfl hbe rfl ?_ | fail)
    exact D.fin2 [CsBk b s v, hv] _ rfl rfl rfl ⟨rfl, v, hv, rfl, hs⟩
 rw [decide_eq_false (fun h => h c3)] at hbe
 by_cases hN : s.nextOk clock
 rotate_left
 ·have e0 : s.putS key val dead deps clock cl op = ((0, 2), s) := by unfold CS.putS; rw [if_neg (fun h => h c1), if_neg c2, if_neg (fun h => h c3), if_pos (.inr hN)]
  rw [e0]
  skip
  refine Ct.mk' func68 rfl rfl rfl (fun g R => ?_)
  try simp only [ca]
  simp only [na]
  skip
  repeat' (first | refine runS ?_ | refine bx rfl (fun _ => ?_) | refine WX.callQ rfl hih rfl ?_ | refine WX.callQ rfl hfo rfl ?_ | fail)
  rename_i b12
  refine I.bs ?_
  refine WX.lit (ys := [clock]) rfl rfl rfl rfl rfl rfl (by decide) rfl (fun v1 h1 hs1 => ?_)
  skip
  try refine runS ?_
  refine W.hp (H' := [h1, VcBk b12 deps, CsBk b s v, hv, R]) rfl ?_
  refine W.loop (α := Nat × Value × Hp) (fun x => x.1 ≤ s.lg.length ∧ IsSl 3 (clock :: (s.lg.take x.1).map (·.ct)) x.2.1 x.2.2) (fun x => [(0, .pointer (some ⟨b, 0, none⟩)), (1, .string key), (2, .string val), (3, .bool dead), (6, .int .i64 cl), (7, .int .i64 op), (12, .pointer (some ⟨b12, 0, none⟩)), (19, x.2.1), (41, v), (42, .int .i64 (s.lg.length : Int)), (43, .int .i64 (x.1 : Int))])
   (fun x => [x.2.2, VcBk b12 deps, CsBk b s v, hv, R]) (fun x => s.lg.length - x.1) (0, v1, h1) ⟨Nat.zero_le _, hs1⟩ (by repeat (first | exact Fsub.nil | refine Fsub.cons rfl ?_)) (Hsub.of_picks inferInstance) ?_
  rintro ⟨i, w, hw⟩ ⟨hi, hsw⟩
  simp only [] at hi hsw ⊢
  have hwl : (clock :: (s.lg.take i).map (·.ct)).length ≤ 257 := by rw [length_cons, length_map, length_take]; omega
  by_cases hlt : i < s.lg.length
  ·obtain ⟨x, hx⟩ : ∃ x, s.lg[i]? = some x := ⟨_, List.getElem?_eq_getElem hlt⟩
   repeat' (first | refine runS ?_ | refine al (fun _ => ?_) | refine WX.loadEW rfl hr hx rfl rfl ?_ | refine sGW Ent.z.enc x.enc rfl rfl ?_ | fail)
   refine I.bs ?_
   refine WX.lit (ys := [x.ct]) rfl rfl rfl rfl rfl rfl (by decide) rfl (fun v2 h2 hs2 => ?_)
   skip
   refine WX.app rfl rfl hsw hs2.rs rfl rfl (by decide) (by simp only [length_cons, length_nil] at hwl ⊢; omega) rfl (fun v3 h3 hs3 => ?_)
   have hs3 : IsSl 3 (clock :: (s.lg.take (i + 1)).map (·.ct)) v3 h3 := by rw [take_add_one, hx, map_append]; exact hs3
   try refine runS ?_
   exact D.rd (i + 1, v3, h3) ⟨by simp only []; omega, hs3⟩ (by simp only []; omega)
  obtain rfl : i = s.lg.length := by omega
  rw [take_length] at hsw hwl
  have hnx := next_ct s.dc s.rg hsw.rs (by omega)
  clear hsw hs1
  try refine runS ?_
  rw [decide_eq_false hN] at hnx
  skip
  refine W.mixA 8 [true, true, true, true, true, true, true, true, true, false, true, true, true, false, false] 13 [CsBk b s v] Tryz.mix (by kernel_rfl) rfl ?_
  skip
  repeat' (first | refine runS ?_ | refine al (fun _ => ?_) | refine WX.callQ rfl hnx rfl ?_ | refine WA.un ?_ | refine WA.backU ?_ | refine WA.back ?_ | refine WA.an ?_ ?_ | refine WA.nil ?_ | fail)
  all_goals
   skip
   by_cases c4 : 256 ≤ s.len
   ·skip
    rename_i b22
    refine WX.hp (H' := [[(b22, .cells (List.toArray [.int .i64 0, .int .i64 0, .int .i64 0]) 41 (0, 0))], hw, VcBk b12 deps, CsBk b s v, hv, R]) rfl ?_
    refine I.st ?_
    refine sGW [.int .i64 0, .int .i64 0, .int .i64 0] [.int .i64 0, .int .i64 0, .int .i64 0] rfl rfl ?_
    skip
    repeat' (first | refine runS ?_ | refine lAN (t := 37) deps.enc deps.enc rfl ?_ | refine WX.callQ rfl hbe rfl ?_ | fail)
    exact D.fin2 [CsBk b s v, hv] _ rfl rfl rfl ⟨rfl, v, hv, rfl, hs⟩
   ·skip
    rename_i b22
    refine WX.hp (H' := [[(b22, .cells (List.toArray [.int .i64 0, .int .i64 0, .int .i64 0]) 41 (0, 0))], hw, VcBk b12 deps, CsBk b s v, hv, R]) rfl ?_
    refine I.st ?_
    refine sGW [.int .i64 0, .int .i64 0, .int .i64 0] [.int .i64 0, .int .i64 0, .int .i64 0] rfl rfl ?_
    skip
    repeat' (first | refine runS ?_ | refine lAN (t := 37) deps.enc deps.enc rfl ?_ | refine WX.callQ rfl hbe rfl ?_ | fail)
    exact D.fin2 [CsBk b s v, hv] _ rfl rfl rfl ⟨rfl, v, hv, rfl, hs⟩
 by_cases c4 : 256 ≤ s.len
 ·have e0 : s.putS key val dead deps clock cl op = ((0, 2), s) := by unfold CS.putS; rw [if_neg (fun h => h c1), if_neg c2, if_neg (fun h => h c3), if_pos (.inl c4)]
  rw [e0]
  skip
  refine Ct.mk' func68 rfl rfl rfl (fun g R => ?_)
  try simp only [ca]
  simp only [na]
  skip
  repeat' (first | refine runS ?_ | refine bx rfl (fun _ => ?_) | refine WX.callQ rfl hih rfl ?_ | refine WX.callQ rfl hfo rfl ?_ | fail)
  rename_i b12
  refine I.bs ?_
  refine WX.lit (ys := [clock]) rfl rfl rfl rfl rfl rfl (by decide) rfl (fun v1 h1 hs1 => ?_)
  skip
  try refine runS ?_
  refine W.hp (H' := [h1, VcBk b12 deps, CsBk b s v, hv, R]) rfl ?_
  refine W.loop (α := Nat × Value × Hp) (fun x => x.1 ≤ s.lg.length ∧ IsSl 3 (clock :: (s.lg.take x.1).map (·.ct)) x.2.1 x.2.2) (fun x => [(0, .pointer (some ⟨b, 0, none⟩)), (1, .string key), (2, .string val), (3, .bool dead), (6, .int .i64 cl), (7, .int .i64 op), (12, .pointer (some ⟨b12, 0, none⟩)), (19, x.2.1), (41, v), (42, .int .i64 (s.lg.length : Int)), (43, .int .i64 (x.1 : Int))])
   (fun x => [x.2.2, VcBk b12 deps, CsBk b s v, hv, R]) (fun x => s.lg.length - x.1) (0, v1, h1) ⟨Nat.zero_le _, hs1⟩ (by repeat (first | exact Fsub.nil | refine Fsub.cons rfl ?_)) (Hsub.of_picks inferInstance) ?_
  rintro ⟨i, w, hw⟩ ⟨hi, hsw⟩
  simp only [] at hi hsw ⊢
  have hwl : (clock :: (s.lg.take i).map (·.ct)).length ≤ 257 := by rw [length_cons, length_map, length_take]; omega
  by_cases hlt : i < s.lg.length
  ·obtain ⟨x, hx⟩ : ∃ x, s.lg[i]? = some x := ⟨_, List.getElem?_eq_getElem hlt⟩
   repeat' (first | refine runS ?_ | refine al (fun _ => ?_) | refine WX.loadEW rfl hr hx rfl rfl ?_ | refine sGW Ent.z.enc x.enc rfl rfl ?_ | fail)
   refine I.bs ?_
   refine WX.lit (ys := [x.ct]) rfl rfl rfl rfl rfl rfl (by decide) rfl (fun v2 h2 hs2 => ?_)
   skip
   refine WX.app rfl rfl hsw hs2.rs rfl rfl (by decide) (by simp only [length_cons, length_nil] at hwl ⊢; omega) rfl (fun v3 h3 hs3 => ?_)
   have hs3 : IsSl 3 (clock :: (s.lg.take (i + 1)).map (·.ct)) v3 h3 := by rw [take_add_one, hx, map_append]; exact hs3
   try refine runS ?_
   exact D.rd (i + 1, v3, h3) ⟨by simp only []; omega, hs3⟩ (by simp only []; omega)
  obtain rfl : i = s.lg.length := by omega
  rw [take_length] at hsw hwl
  have hnx := next_ct s.dc s.rg hsw.rs (by omega)
  clear hsw hs1
  try refine runS ?_
  rw [decide_eq_true hN] at hnx
  skip
  refine W.mixA 8 [true, true, true, true, true, true, true, true, true, false, true, true, true, false, false] 13 [CsBk b s v] Tryz.mix (by kernel_rfl) rfl ?_
  skip
  repeat' (first | refine runS ?_ | refine al (fun _ => ?_) | refine WX.callQ rfl hnx rfl ?_ | refine WA.un ?_ | refine WA.backU ?_ | refine WA.back ?_ | refine WA.an ?_ ?_ | refine WA.nil ?_ | fail)
  all_goals
   skip
   skip
   rename_i b22
   refine WX.hp (H' := [[(b22, .cells (List.toArray [.int .i64 0, .int .i64 0, .int .i64 0]) 41 (0, 0))], hw, VcBk b12 deps, CsBk b s v, hv, R]) rfl ?_
   refine I.st ?_
   refine sGW [.int .i64 0, .int .i64 0, .int .i64 0] [.int .i64 (nextCt (clock :: s.lg.map (fun (e : Ent) => e.ct))), .int .i64 s.dc, .int .i64 s.rg] rfl rfl ?_
   skip
   repeat' (first | refine runS ?_ | refine lAN (t := 37) deps.enc deps.enc rfl ?_ | refine WX.callQ rfl hbe rfl ?_ | fail)
   exact D.fin2 [CsBk b s v, hv] _ rfl rfl rfl ⟨rfl, v, hv, rfl, hs⟩
 have hj : s.dc = (s.dc.toNat : Int) := by have := hN.2.2.1; omega
 have hj3 : s.dc.toNat < 3 := by have := hN.2.2.2.1; omega
 have hat := (colF s.rg s.lg).enc_at hj3
 have hcr := colF_range s.rg ok.es hj3
 simp only [MC] at hcr
 have hpa := past_ct hr (by omega)
 have hen := entR_ct (s.entry key val dead deps clock cl op)
 have hn4 : ¬ (256 ≤ s.len ∨ ¬ s.nextOk clock) := fun h => h.elim c4 (fun h => h hN)
 by_cases c5 : EntR (s.entry key val dead deps clock cl op)
 rotate_left
 ·have e0 : s.putS key val dead deps clock cl op = ((0, 1), s) := by unfold CS.putS; rw [if_neg (fun h => h c1), if_neg c2, if_neg (fun h => h c3), if_neg hn4, if_pos c5]
  rw [e0]
  rw [decide_eq_false c5] at hen
  skip
  refine Ct.mk' func68 rfl rfl rfl (fun g R => ?_)
  try simp only [ca]
  simp only [na]
  skip
  repeat' (first | refine runS ?_ | refine bx rfl (fun _ => ?_) | refine WX.callQ rfl hih rfl ?_ | refine WX.callQ rfl hfo rfl ?_ | fail)
  rename_i b12
  refine I.bs ?_
  refine WX.lit (ys := [clock]) rfl rfl rfl rfl rfl rfl (by decide) rfl (fun v1 h1 hs1 => ?_)
  skip
  try refine runS ?_
  refine W.hp (H' := [h1, VcBk b12 deps, CsBk b s v, hv, R]) rfl ?_
  refine W.loop (α := Nat × Value × Hp) (fun x => x.1 ≤ s.lg.length ∧ IsSl 3 (clock :: (s.lg.take x.1).map (·.ct)) x.2.1 x.2.2) (fun x => [(0, .pointer (some ⟨b, 0, none⟩)), (1, .string key), (2, .string val), (3, .bool dead), (6, .int .i64 cl), (7, .int .i64 op), (12, .pointer (some ⟨b12, 0, none⟩)), (19, x.2.1), (41, v), (42, .int .i64 (s.lg.length : Int)), (43, .int .i64 (x.1 : Int))])
   (fun x => [x.2.2, VcBk b12 deps, CsBk b s v, hv, R]) (fun x => s.lg.length - x.1) (0, v1, h1) ⟨Nat.zero_le _, hs1⟩ (by repeat (first | exact Fsub.nil | refine Fsub.cons rfl ?_)) (Hsub.of_picks inferInstance) ?_
  rintro ⟨i, w, hw⟩ ⟨hi, hsw⟩
  simp only [] at hi hsw ⊢
  have hwl : (clock :: (s.lg.take i).map (·.ct)).length ≤ 257 := by rw [length_cons, length_map, length_take]; omega
  by_cases hlt : i < s.lg.length
  ·obtain ⟨x, hx⟩ : ∃ x, s.lg[i]? = some x := ⟨_, List.getElem?_eq_getElem hlt⟩
   repeat' (first | refine runS ?_ | refine al (fun _ => ?_) | refine WX.loadEW rfl hr hx rfl rfl ?_ | refine sGW Ent.z.enc x.enc rfl rfl ?_ | fail)
   refine I.bs ?_
   refine WX.lit (ys := [x.ct]) rfl rfl rfl rfl rfl rfl (by decide) rfl (fun v2 h2 hs2 => ?_)
   skip
   refine WX.app rfl rfl hsw hs2.rs rfl rfl (by decide) (by simp only [length_cons, length_nil] at hwl ⊢; omega) rfl (fun v3 h3 hs3 => ?_)
   have hs3 : IsSl 3 (clock :: (s.lg.take (i + 1)).map (·.ct)) v3 h3 := by rw [take_add_one, hx, map_append]; exact hs3
   try refine runS ?_
   exact D.rd (i + 1, v3, h3) ⟨by simp only []; omega, hs3⟩ (by simp only []; omega)
  obtain rfl : i = s.lg.length := by omega
  rw [take_length] at hsw hwl
  have hnx := next_ct s.dc s.rg hsw.rs (by omega)
  clear hsw hs1
  try refine runS ?_
  rw [decide_eq_true hN] at hnx
  skip
  refine W.mixA 8 [true, true, true, true, true, true, true, true, true, false, true, true, true, false, false] 13 [CsBk b s v] Tryz.mix (by kernel_rfl) rfl ?_
  skip
  repeat' (first | refine runS ?_ | refine al (fun _ => ?_) | refine WX.callQ rfl hnx rfl ?_ | refine WA.un ?_ | refine WA.backU ?_ | refine WA.back ?_ | refine WA.an ?_ ?_ | refine WA.nil ?_ | fail)
  all_goals
   skip
   skip
   rename_i b22
   refine WX.hp (H' := [[(b22, .cells (List.toArray [.int .i64 0, .int .i64 0, .int .i64 0]) 41 (0, 0))], hw, VcBk b12 deps, CsBk b s v, hv, R]) rfl ?_
   refine I.st ?_
   refine sGW [.int .i64 0, .int .i64 0, .int .i64 0] [.int .i64 (nextCt (clock :: s.lg.map (fun (e : Ent) => e.ct))), .int .i64 s.dc, .int .i64 s.rg] rfl rfl ?_
   skip
   repeat' (first | refine runS ?_ | refine lAN (t := 37) deps.enc deps.enc rfl ?_ | refine WX.callQ rfl hbe rfl ?_ | fail)
   skip
   refine W.hp (H' := [[(b22, .cells (List.toArray [.int .i64 (nextCt (clock :: s.lg.map (fun (e : Ent) => e.ct))), .int .i64 s.dc, .int .i64 s.rg]) 41 (0, 0))], hw, VcBk b12 deps, CsBk b s v, hv, R]) rfl ?_
   refine W.quiet Tryz.mix (by kernel_rfl) ?_
   skip
   repeat' (first | refine runS ?_ | refine WX.callQ rfl hcol rfl ?_ | refine WX.ix1' rfl rfl hj hj3 hat rfl ?_ | fail)
   refine W.mixA 8 (List.replicate 19 true ++ [false, false, false, true, true, true, false]) 25 [CsBk b s v, VcBk b12 deps, [(b22, .cells (List.toArray [.int .i64 (nextCt (clock :: s.lg.map (fun (e : Ent) => e.ct))), .int .i64 s.dc, .int .i64 s.rg]) 41 (0, 0))]] Tryz.mix (by kernel_rfl) rfl ?_
   skip
   repeat' (first | refine runS ?_ | refine al (fun _ => ?_) | refine lAN (t := 37) deps.enc deps.enc rfl ?_ | refine lAN (t := 41) [.int .i64 (nextCt (clock :: s.lg.map (fun (e : Ent) => e.ct))), .int .i64 s.dc, .int .i64 s.rg] [.int .i64 (nextCt (clock :: s.lg.map (fun (e : Ent) => e.ct))), .int .i64 s.dc, .int .i64 s.rg] rfl ?_ | refine WX.callQ rfl hpa rfl ?_ | refine WX.callQ rfl (merge_ct hs2.rs (by simp)) rfl ?_ | refine WX.lit (ys := [deps, pastV s.lg]) rfl rfl rfl rfl rfl rfl (by decide) rfl (fun v2 h2 hs2 => ?_) | refine bdN (t := 39) [.int .i64 s.dc, .int .i64 s.rg, .int .i64 ((colF s.rg s.lg).at s.dc.toNat + 1)] ?_ | refine bdN (t := 43) (s.entry key val dead deps clock cl op).enc ?_ | refine WA.un ?_ | refine WA.backU ?_ | refine WA.back ?_ | refine WA.an ?_ ?_ | refine WA.nil ?_ | fail)
  all_goals
   skip
   skip
   rename_i b25
   refine I.st ?_
   refine sGW Ent.z.enc (s.entry key val dead deps clock cl op).enc rfl rfl ?_
   skip
   repeat' (first | refine runS ?_ | refine lAN (t := 43) (s.entry key val dead deps clock cl op).enc (s.entry key val dead deps clock cl op).enc rfl ?_ | refine WX.callQ rfl hen rfl ?_ | fail)
   exact D.fin2 [CsBk b s v, hv] _ rfl rfl rfl ⟨rfl, v, hv, rfl, hs⟩
 rw [decide_eq_true c5] at hen
 have e0 : s.putS key val dead deps clock cl op = ((s.len + 1, 0), (s.push (s.entry key val dead deps clock cl op)).settle) := by unfold CS.putS; rw [if_neg (fun h => h c1), if_neg c2, if_neg (fun h => h c3), if_neg hn4, if_neg (fun h => h c5)]
 rw [e0]
 have hse := fun v' => settle_ct (s := s.push (s.entry key val dead deps clock cl op)) ok.co b v'
 have hl1 : ((s.lg ++ [s.entry key val dead deps clock cl op]).length : Int) = s.len + 1 := by rw [length_append, hlen]; rfl
 skip
 refine Ct.mk' func68 rfl rfl rfl (fun g R => ?_)
 try simp only [ca]
 simp only [na]
 skip
 repeat' (first | refine runS ?_ | refine bx rfl (fun _ => ?_) | refine WX.callQ rfl hih rfl ?_ | refine WX.callQ rfl hfo rfl ?_ | fail)
 rename_i b12
 refine I.bs ?_
 refine WX.lit (ys := [clock]) rfl rfl rfl rfl rfl rfl (by decide) rfl (fun v1 h1 hs1 => ?_)
 skip
 try refine runS ?_
 refine W.hp (H' := [h1, VcBk b12 deps, CsBk b s v, hv, R]) rfl ?_
 refine W.loop (α := Nat × Value × Hp) (fun x => x.1 ≤ s.lg.length ∧ IsSl 3 (clock :: (s.lg.take x.1).map (·.ct)) x.2.1 x.2.2) (fun x => [(0, .pointer (some ⟨b, 0, none⟩)), (1, .string key), (2, .string val), (3, .bool dead), (6, .int .i64 cl), (7, .int .i64 op), (12, .pointer (some ⟨b12, 0, none⟩)), (19, x.2.1), (41, v), (42, .int .i64 (s.lg.length : Int)), (43, .int .i64 (x.1 : Int))])
  (fun x => [x.2.2, VcBk b12 deps, CsBk b s v, hv, R]) (fun x => s.lg.length - x.1) (0, v1, h1) ⟨Nat.zero_le _, hs1⟩ (by repeat (first | exact Fsub.nil | refine Fsub.cons rfl ?_)) (Hsub.of_picks inferInstance) ?_
 rintro ⟨i, w, hw⟩ ⟨hi, hsw⟩
 simp only [] at hi hsw ⊢
 have hwl : (clock :: (s.lg.take i).map (·.ct)).length ≤ 257 := by rw [length_cons, length_map, length_take]; omega
 by_cases hlt : i < s.lg.length
 ·obtain ⟨x, hx⟩ : ∃ x, s.lg[i]? = some x := ⟨_, List.getElem?_eq_getElem hlt⟩
  repeat' (first | refine runS ?_ | refine al (fun _ => ?_) | refine WX.loadEW rfl hr hx rfl rfl ?_ | refine sGW Ent.z.enc x.enc rfl rfl ?_ | fail)
  refine I.bs ?_
  refine WX.lit (ys := [x.ct]) rfl rfl rfl rfl rfl rfl (by decide) rfl (fun v2 h2 hs2 => ?_)
  skip
  refine WX.app rfl rfl hsw hs2.rs rfl rfl (by decide) (by simp only [length_cons, length_nil] at hwl ⊢; omega) rfl (fun v3 h3 hs3 => ?_)
  have hs3 : IsSl 3 (clock :: (s.lg.take (i + 1)).map (·.ct)) v3 h3 := by rw [take_add_one, hx, map_append]; exact hs3
  try refine runS ?_
  exact D.rd (i + 1, v3, h3) ⟨by simp only []; omega, hs3⟩ (by simp only []; omega)
 obtain rfl : i = s.lg.length := by omega
 rw [take_length] at hsw hwl
 have hnx := next_ct s.dc s.rg hsw.rs (by omega)
 clear hsw hs1
 try refine runS ?_
 rw [decide_eq_true hN] at hnx
 skip
 refine W.mixA 8 [true, true, true, true, true, true, true, true, true, false, true, true, true, false, false] 13 [CsBk b s v] Tryz.mix (by kernel_rfl) rfl ?_
 skip
 repeat' (first | refine runS ?_ | refine al (fun _ => ?_) | refine WX.callQ rfl hnx rfl ?_ | refine WA.un ?_ | refine WA.backU ?_ | refine WA.back ?_ | refine WA.an ?_ ?_ | refine WA.nil ?_ | fail)
 all_goals
  skip
  skip
  rename_i b22
  refine WX.hp (H' := [[(b22, .cells (List.toArray [.int .i64 0, .int .i64 0, .int .i64 0]) 41 (0, 0))], hw, VcBk b12 deps, CsBk b s v, hv, R]) rfl ?_
  refine I.st ?_
  refine sGW [.int .i64 0, .int .i64 0, .int .i64 0] [.int .i64 (nextCt (clock :: s.lg.map (fun (e : Ent) => e.ct))), .int .i64 s.dc, .int .i64 s.rg] rfl rfl ?_
  skip
  repeat' (first | refine runS ?_ | refine lAN (t := 37) deps.enc deps.enc rfl ?_ | refine WX.callQ rfl hbe rfl ?_ | fail)
  skip
  refine W.hp (H' := [[(b22, .cells (List.toArray [.int .i64 (nextCt (clock :: s.lg.map (fun (e : Ent) => e.ct))), .int .i64 s.dc, .int .i64 s.rg]) 41 (0, 0))], hw, VcBk b12 deps, CsBk b s v, hv, R]) rfl ?_
  refine W.quiet Tryz.mix (by kernel_rfl) ?_
  skip
  repeat' (first | refine runS ?_ | refine WX.callQ rfl hcol rfl ?_ | refine WX.ix1' rfl rfl hj hj3 hat rfl ?_ | fail)
  refine W.mixA 8 (List.replicate 19 true ++ [false, false, false, true, true, true, false]) 25 [CsBk b s v, VcBk b12 deps, [(b22, .cells (List.toArray [.int .i64 (nextCt (clock :: s.lg.map (fun (e : Ent) => e.ct))), .int .i64 s.dc, .int .i64 s.rg]) 41 (0, 0))]] Tryz.mix (by kernel_rfl) rfl ?_
  skip
  repeat' (first | refine runS ?_ | refine al (fun _ => ?_) | refine lAN (t := 37) deps.enc deps.enc rfl ?_ | refine lAN (t := 41) [.int .i64 (nextCt (clock :: s.lg.map (fun (e : Ent) => e.ct))), .int .i64 s.dc, .int .i64 s.rg] [.int .i64 (nextCt (clock :: s.lg.map (fun (e : Ent) => e.ct))), .int .i64 s.dc, .int .i64 s.rg] rfl ?_ | refine WX.callQ rfl hpa rfl ?_ | refine WX.callQ rfl (merge_ct hs2.rs (by simp)) rfl ?_ | refine WX.lit (ys := [deps, pastV s.lg]) rfl rfl rfl rfl rfl rfl (by decide) rfl (fun v2 h2 hs2 => ?_) | refine bdN (t := 39) [.int .i64 s.dc, .int .i64 s.rg, .int .i64 ((colF s.rg s.lg).at s.dc.toNat + 1)] ?_ | refine bdN (t := 43) (s.entry key val dead deps clock cl op).enc ?_ | refine WA.un ?_ | refine WA.backU ?_ | refine WA.back ?_ | refine WA.an ?_ ?_ | refine WA.nil ?_ | fail)
 all_goals
  skip
  skip
  rename_i b25
  refine I.st ?_
  refine sGW Ent.z.enc (s.entry key val dead deps clock cl op).enc rfl rfl ?_
  skip
  repeat' (first | refine runS ?_ | refine lAN (t := 43) (s.entry key val dead deps clock cl op).enc (s.entry key val dead deps clock cl op).enc rfl ?_ | refine WX.callQ rfl hen rfl ?_ | fail)
  refine W.mixN 8 [true, true, true, true, true, true, false, false] [CsBk b s v, EnBk b25 (s.entry key val dead deps clock cl op)] Tryz.mix (by kernel_rfl) ?_
  skip
  repeat' (first | refine runS ?_ | refine lAN (t := 43) (s.entry key val dead deps clock cl op).enc (s.entry key val dead deps clock cl op).enc rfl ?_ | fail)
  refine I.bs ?_
  refine WX.lit (ys := [s.entry key val dead deps clock cl op]) rfl rfl rfl rfl rfl rfl (by decide) rfl (fun v4 h4 hs4 => ?_)
  try refine runS ?_
  refine WX.app rfl rfl hs hs4.rs rfl rfl (by decide) (by simp only [length_cons, length_nil]; omega) rfl (fun v3 h3 hs3 => ?_)
  obtain ⟨p3, c3', e3⟩ := hs3.rs.len
  subst e3
  try refine runS ?_
  refine I.st ?_
  refine stN (s.cells v) (CS.cells (s.push (s.entry key val dead deps clock cl op)) (.slice p3 (s.lg ++ [s.entry key val dead deps clock cl op]).length c3')) rfl rfl ?_
  try refine runS ?_
  refine WX.call rfl (hse (.slice p3 (s.lg ++ [s.entry key val dead deps clock cl op]).length c3')) rfl ?_
  rintro _ _ ⟨rfl, rfl⟩
  simp only [ca, na]
  try refine runS ?_
  exact D.fin2 [CsBk b (s.push (s.entry key val dead deps clock cl op)).settle (.slice p3 (s.lg ++ [s.entry key val dead deps clock cl op]).length c3'), h3] _ rfl rfl rfl ⟨by rw [hl1], _, h3, rfl, by rw [push_lg]; exact hs3⟩
abbrev LgBk (b cb : Nat) (dc rg nd : Int) (d w : Nat) (up : Bool) : Hp := [(b, .cells (List.toArray [.pointer (some ⟨cb, 0, none⟩), .int .i64 dc, .int .i64 rg, .int .i64 nd, .pointer (some ⟨d, 0, none⟩), .pointer (some ⟨w, 0, none⟩), .bool up]) 52 (0, 0))]
theorem lup_ct (b cb : Nat) (dc rg nd : Int) (d w : Nat) (up : Bool) : Ct prog 22 [.pointer (some ⟨b, 0, none⟩)] [LgBk b cb dc rg nd d w up] (fun r H' => r = .bool up ∧ H' = [LgBk b cb dc rg nd d w up]) := by
 refine Ct.mk' func22 rfl rfl rfl (fun g R => ?_)
 try simp only [ca]
 simp only [na]
 try refine runS ?_
 exact D.fin1 [LgBk b cb dc rg nd d w up] _ rfl rfl ⟨rfl, rfl⟩
def mayN (l : List Lf) : Int := if roomB l 1 = true then 0 else 51
theorem lmay_ct {l : List Lf} (ok : LOk l) (b cb : Nat) (dc rg nd : Int) {d w : Nat} {seg torn : Int} {hd : Hp} (hdk : IsDk (dk l) d hd) : Ct prog 65 [.pointer (some ⟨b, 0, none⟩)] [LgBk b cb dc rg nd d w true, WBk w d seg torn, hd] (fun r H' => r = .int .i64 (mayN l) ∧ H' = [LgBk b cb dc rg nd d w true, WBk w d seg torn, hd]) := by
 have hrm := room_ct ok hdk (w := w) (seg := seg) (torn := torn) 1
 unfold mayN
 refine Ct.mk' func65 rfl rfl rfl (fun g R => ?_)
 try simp only [ca]
 simp only [na]
 cases hr : roomB l 1 with
 | true =>
  rw [hr] at hrm
  repeat' (first | refine runS ?_ | refine WX.callQ rfl hrm rfl ?_ | fail)
  exact D.fin1 [LgBk b cb dc rg nd d w true, WBk w d seg torn, hd] _ rfl rfl ⟨rfl, rfl⟩
 | false =>
  rw [hr] at hrm
  repeat' (first | refine runS ?_ | refine WX.callQ rfl hrm rfl ?_ | fail)
  exact D.fin1 [LgBk b cb dc rg nd d w true, WBk w d seg torn, hd] _ rfl rfl ⟨rfl, rfl⟩
theorem lmayD_ct (b cb : Nat) (dc rg nd : Int) (d w : Nat) : Ct prog 65 [.pointer (some ⟨b, 0, none⟩)] [LgBk b cb dc rg nd d w false] (fun r H' => r = .int .i64 52 ∧ H' = [LgBk b cb dc rg nd d w false]) := by
 refine Ct.mk' func65 rfl rfl rfl (fun g R => ?_)
 try simp only [ca]
 simp only [na]
 try refine runS ?_
 exact D.fin1 [LgBk b cb dc rg nd d w false] _ rfl rfl ⟨rfl, rfl⟩
def grownL (l : List Lf) (c : CS) (was : Int) : List Lf := if was < c.len then (ladd1 l (recW (c.lg.getD was.toNat Ent.z))).1 else l
theorem lgrown_ct {l : List Lf} (ok : LOk l) (b cb : Nat) (dc rg nd : Int) {d w : Nat} {torn : Int} {hd : Hp} (hdk : IsDk (dk l) d hd) {c : CS} (okc : CsOk c) {v : Value} {hv : Hp} (hs : Rs c.lg v hv) {was : Int} (h0 : 0 ≤ was) (h1 : was ≤ 1000) :
  Ct prog 67 [.pointer (some ⟨b, 0, none⟩), .int .i64 was] [LgBk b cb dc rg nd d w true, CsBk cb c v, hv, WBk w d (lastN l) torn, hd]
   (fun r H' => r = .tuple #[] ∧ ∃ hd', H' = [LgBk b cb dc rg nd d w true, CsBk cb c v, hv, WBk w d (lastN (grownL l c was)) torn, hd'] ∧ IsDk (dk (grownL l c was)) d hd') := by
 have hll := okc.len
 have hlen : c.len = (c.lg.length : Int) := rfl
 have hat := cat_ct c cb hs (by omega) (was + 1) (by omega)
 unfold grownL
 by_cases hw : was < c.len
 ·rw [if_pos hw]
  rw [if_pos (show 1 ≤ was + 1 ∧ was + 1 ≤ c.len by omega), decide_eq_true (show 1 ≤ was + 1 ∧ was + 1 ≤ c.len by omega), show (was + 1).toNat - 1 = was.toNat by omega] at hat
  obtain ⟨e, he⟩ : ∃ e, c.lg.getD was.toNat Ent.z = e := ⟨_, rfl⟩
  have heR : EntR e := by
   have hlt : was.toNat < c.lg.length := by omega
   rw [← he, getD_eq_getElem?_getD, List.getElem?_eq_getElem hlt]
   exact okc.es _ (getElem_mem hlt)
  rw [he] at hat ⊢
  refine Ct.mk' func67 rfl rfl rfl (fun g R => ?_)
  try simp only [ca]
  simp only [na]
  repeat' (first | refine runS ?_ | refine al (fun _ => ?_) | refine WX.callQ rfl hat rfl ?_ | refine sGW Ent.z.enc e.enc rfl rfl ?_ | fail)
  rename_i b4
  refine W.mixN 8 [true, true, true, true, true, true, false] [LgBk b cb dc rg nd d w true, EnBk b4 e] Tryz.mix (by kernel_rfl) ?_
  repeat' (first | refine runS ?_ | refine lAN (t := 43) e.enc e.enc rfl ?_ | refine bdN (t := 108) (recW e).enc ?_ | fail)
  refine I.bs ?_
  refine WX.lit (ys := [recW e]) rfl rfl rfl rfl rfl rfl (by decide) rfl (fun v2 h2 hs2 => ?_)
  try refine runS ?_
  have hadd := add_ct ok hdk hs2.rs (by simp) (fun r hr => by
   rw [mem_singleton.1 hr]
   have hk := heR.key; have hv := heR.val
   show e.key.data.toList.length + e.val.data.toList.length ≤ 1073741824
   rw [show e.key.data.toList.length = e.key.size from Array.length_toList, show e.val.data.toList.length = e.val.size from Array.length_toList]
   omega) (w := w) (torn := torn)
  rw [ladd_1] at hadd
  refine WX.call rfl hadd rfl ?_
  rintro _ _ ⟨hd', rfl, rfl, hdk'⟩
  simp only [ca, na]
  try refine runS ?_
  exact D.finE [LgBk b cb dc rg nd d w true, CsBk cb c v, hv, WBk w d (lastN (ladd1 l (recW e)).1) torn, hd'] _ rfl ⟨rfl, hd', rfl, hdk'⟩
 ·rw [if_neg hw]
  rw [if_neg (show ¬ (1 ≤ was + 1 ∧ was + 1 ≤ c.len) by omega), decide_eq_false (show ¬ (1 ≤ was + 1 ∧ was + 1 ≤ c.len) by omega)] at hat
  refine Ct.mk' func67 rfl rfl rfl (fun g R => ?_)
  try simp only [ca]
  simp only [na]
  repeat' (first | refine runS ?_ | refine al (fun _ => ?_) | refine WX.callQ rfl hat rfl ?_ | refine sGW Ent.z.enc Ent.z.enc rfl rfl ?_ | fail)
  exact D.finE [LgBk b cb dc rg nd d w true, CsBk cb c v, hv, WBk w d (lastN l) torn, hd] _ rfl ⟨rfl, hd, rfl, hdk⟩
end Go.Proofs.YtejfahjgfedliaaGreat

namespace Go.Proofs.YtejfahjgfedliaaGreat
open Go Go.Sl Go.Proofs.Tryz
def LPost (b cb : Nat) (dc rg nd : Int) (d w : Nat) (torn : Int) (c : CS) (l : List Lf) (H' : HH) : Prop :=
 ∃ v hv hd, H' = [LgBk b cb dc rg nd d w true, CsBk cb c v, hv, WBk w d (lastN l) torn, hd] ∧ IsSl 43 c.lg v hv ∧ IsDk (dk l) d hd
theorem may_room {l : List Lf} (h : roomB l 1 = true) : mayN l = 0 := if_pos h
theorem may_full {l : List Lf} (h : roomB l 1 = false) : mayN l = 51 := if_neg (by rw [h]; decide)
section
variable {l : List Lf} (ok : LOk l) (b cb : Nat) (dc rg nd : Int) {d w : Nat} {torn : Int} {hd : Hp} (hdk : IsDk (dk l) d hd) {c : CS} (okc : CsOk c) {v : Value} {hv : Hp} (hs : IsSl 43 c.lg v hv)
include ok hdk okc hs
theorem lsyncU_ct : Ct prog 27 [.pointer (some ⟨b, 0, none⟩)] [LgBk b cb dc rg nd d w true, CsBk cb c v, hv, WBk w d (lastN l) torn, hd]
  (fun r H' => r = .tuple #[] ∧ LPost b cb dc rg nd d w torn c.sync (lsync l) H') := by
 have hsy := sync_ct ok hdk (w := w) (seg := lastN l) (torn := torn)
 have hcs := csync_ct okc cb hs
 rw [← lastN_sync l] at hsy
 refine Ct.mk' func27 rfl rfl rfl (fun g R => ?_)
 try simp only [ca]
 simp only [na]
 rw [← lastN_sync l]
 try refine runS ?_
 refine WX.call rfl hsy rfl ?_
 rintro _ _ ⟨hd', rfl, rfl, hdk'⟩
 simp only [ca, na]
 try refine runS ?_
 refine WX.call rfl hcs rfl ?_
 rintro _ _ ⟨rfl, v', hv', rfl, hs'⟩
 simp only [ca, na]
 try refine runS ?_
 exact D.finE [LgBk b cb dc rg nd d w true, CsBk cb c.sync v', hv', WBk w d (lastN (lsync l)) torn, hd'] _ rfl ⟨rfl, v', hv', hd', rfl, hs', hdk'⟩
def takeLS (l : List Lf) (c : CS) (fr ep ix : Int) (e : Ent) : Bool × CS × List Lf :=
 if roomB l 1 = true then ((c.take fr ep ix e).1, (c.take fr ep ix e).2, grownL l (c.take fr ep ix e).2 c.len) else (false, c, l)
set_option maxRecDepth 10000 in
theorem ltakeU_ct (fr ep ix : Int) (e : Ent) : Ct prog 25 [.pointer (some ⟨b, 0, none⟩), .int .i64 fr, .int .i64 ep, .int .i64 ix, .agg (List.toArray e.enc)] [LgBk b cb dc rg nd d w true, CsBk cb c v, hv, WBk w d (lastN l) torn, hd]
  (fun r H' => r = .bool (takeLS l c fr ep ix e).1 ∧ LPost b cb dc rg nd d w torn (takeLS l c fr ep ix e).2.1 (takeLS l c fr ep ix e).2.2 H') := by
 have hmay := lmay_ct ok b cb dc rg nd (w := w) (seg := lastN l) (torn := torn) hdk
 have hll := okc.len
 have hln : c.len = (c.lg.length : Int) := rfl
 cases hrm : roomB l 1 with
 | false =>
  have e0 : takeLS l c fr ep ix e = (false, c, l) := if_neg (by rw [hrm]; decide)
  rw [e0]
  rw [may_full hrm] at hmay
  refine Ct.mk' func25 rfl rfl rfl (fun g R => ?_)
  try simp only [ca]
  simp only [na]
  repeat' (first | refine runS ?_ | refine bx rfl (fun _ => ?_) | refine WX.callQ rfl hmay rfl ?_ | fail)
  exact D.fin1 [LgBk b cb dc rg nd d w true, CsBk cb c v, hv, WBk w d (lastN l) torn, hd] _ rfl rfl ⟨rfl, v, hv, hd, rfl, hs, hdk⟩
 | true =>
  have e0 : takeLS l c fr ep ix e = ((c.take fr ep ix e).1, (c.take fr ep ix e).2, grownL l (c.take fr ep ix e).2 c.len) := if_pos hrm
  rw [e0]
  rw [may_room hrm] at hmay
  have hlc := clen_ct c cb hs.rs
  have htk := ctake_ct okc cb hs fr ep ix e
  have okt := okc.take fr ep ix e
  generalize c.take fr ep ix e = t at htk okt ⊢
  refine Ct.mk' func25 rfl rfl rfl (fun g R => ?_)
  try simp only [ca]
  simp only [na]
  repeat' (first | refine runS ?_ | refine bx rfl (fun _ => ?_) | refine WX.callQ rfl hmay rfl ?_ | refine WX.callQ rfl hlc rfl ?_ | fail)
  rename_i b9
  refine W.mixN 8 [true, true, true, true, true, true, true, true, false] [LgBk b cb dc rg nd d w true, EnBk b9 e] Tryz.mix (by kernel_rfl) ?_
  repeat' (first | refine runS ?_ | refine lAN (t := 43) e.enc e.enc rfl ?_ | fail)
  refine WX.call rfl htk rfl ?_
  rintro _ _ ⟨rfl, v', hv', rfl, hs'⟩
  have hgr := lgrown_ct ok b cb dc rg nd (w := w) (torn := torn) hdk okt hs'.rs (was := c.len) (by omega) (by omega)
  simp only [ca, na]
  try refine runS ?_
  refine WX.call rfl hgr rfl ?_
  rintro _ _ ⟨rfl, hd', rfl, hdk'⟩
  simp only [ca, na]
  try refine runS ?_
  exact D.fin1 [LgBk b cb dc rg nd d w true, CsBk cb t.2 v', hv', WBk w d (lastN (grownL l t.2 c.len)) torn, hd'] _ rfl rfl ⟨rfl, v', hv', hd', rfl, hs', hdk'⟩
def putLS (l : List Lf) (c : CS) (key val : ByteArray) (dead : Bool) (deps : V9) (clock cl op : Int) : (Int × Int) × CS × List Lf :=
 if roomB l 1 = true then ((c.putS key val dead deps clock cl op).1, (c.putS key val dead deps clock cl op).2, grownL l (c.putS key val dead deps clock cl op).2 c.len) else ((0, 51), c, l)
set_option maxRecDepth 10000 in
theorem lputU_ct (key val : ByteArray) (dead : Bool) (deps : V9) (clock cl op : Int) : Ct prog 26 [.pointer (some ⟨b, 0, none⟩), .string key, .string val, .bool dead, .agg (List.toArray deps.enc), .int .i64 clock, .int .i64 cl, .int .i64 op] [LgBk b cb dc rg nd d w true, CsBk cb c v, hv, WBk w d (lastN l) torn, hd]
  (fun r H' => r = .tuple #[.int .i64 (putLS l c key val dead deps clock cl op).1.1, .int .i64 (putLS l c key val dead deps clock cl op).1.2] ∧ LPost b cb dc rg nd d w torn (putLS l c key val dead deps clock cl op).2.1 (putLS l c key val dead deps clock cl op).2.2 H') := by
 have hmay := lmay_ct ok b cb dc rg nd (w := w) (seg := lastN l) (torn := torn) hdk
 have hll := okc.len
 have hln : c.len = (c.lg.length : Int) := rfl
 cases hrm : roomB l 1 with
 | false =>
  have e0 : putLS l c key val dead deps clock cl op = ((0, 51), c, l) := if_neg (by rw [hrm]; decide)
  rw [e0]
  rw [may_full hrm] at hmay
  refine Ct.mk' func26 rfl rfl rfl (fun g R => ?_)
  try simp only [ca]
  simp only [na]
  repeat' (first | refine runS ?_ | refine bx rfl (fun _ => ?_) | refine WX.callQ rfl hmay rfl ?_ | fail)
  exact D.fin2 [LgBk b cb dc rg nd d w true, CsBk cb c v, hv, WBk w d (lastN l) torn, hd] _ rfl rfl rfl ⟨rfl, v, hv, hd, rfl, hs, hdk⟩
 | true =>
  have e0 : putLS l c key val dead deps clock cl op = ((c.putS key val dead deps clock cl op).1, (c.putS key val dead deps clock cl op).2, grownL l (c.putS key val dead deps clock cl op).2 c.len) := if_pos hrm
  rw [e0]
  rw [may_room hrm] at hmay
  have hlc := clen_ct c cb hs.rs
  have htk := cput_ct okc cb hs key val dead deps clock cl op
  have okt := okc.put key val dead deps clock cl op
  generalize c.putS key val dead deps clock cl op = t at htk okt ⊢
  refine Ct.mk' func26 rfl rfl rfl (fun g R => ?_)
  try simp only [ca]
  simp only [na]
  repeat' (first | refine runS ?_ | refine bx rfl (fun _ => ?_) | refine WX.callQ rfl hmay rfl ?_ | refine WX.callQ rfl hlc rfl ?_ | fail)
  rename_i b9
  refine W.mixN 8 [true, true, true, true, true, true, true, true, true, true, true, false, true, true, true, true] [LgBk b cb dc rg nd d w true, VcBk b9 deps] Tryz.mix (by kernel_rfl) ?_
  repeat' (first | refine runS ?_ | refine lAN (t := 37) deps.enc deps.enc rfl ?_ | fail)
  refine WX.call rfl htk rfl ?_
  rintro _ _ ⟨rfl, v', hv', rfl, hs'⟩
  have hgr := lgrown_ct ok b cb dc rg nd (w := w) (torn := torn) hdk okt hs'.rs (was := c.len) (by omega) (by omega)
  simp only [ca, na]
  try refine runS ?_
  refine WX.call rfl hgr rfl ?_
  rintro _ _ ⟨rfl, hd', rfl, hdk'⟩
  simp only [ca, na]
  try refine runS ?_
  exact D.fin2 [LgBk b cb dc rg nd d w true, CsBk cb t.2 v', hv', WBk w d (lastN (grownL l t.2 c.len)) torn, hd'] _ rfl rfl rfl ⟨rfl, v', hv', hd', rfl, hs', hdk'⟩
end
end Go.Proofs.YtejfahjgfedliaaGreat

namespace Go.Proofs.YtejfahjgfedliaaGreat
open Go Go.Sl Go.Proofs.Tryz List
def entLS (l : List Lf) (c : CS) (x : Cfg) : (Bool × Int) × CS × List Lf :=
 if roomB l 2 = true then
  (if (c.enter x).1.2 = 0 then ((c.enter x).1, (c.enter x).2, lsync (ladd1 (if (c.enter x).1.1 = true then (lcut l).1 else l) (recN x (c.enter x).2.bs)).1) else ((c.enter x).1, (c.enter x).2, l))
 else ((false, 51), c, l)
set_option maxRecDepth 10000 in
set_option maxHeartbeats 1000000 in
theorem lentU_ct {l : List Lf} (ok : LOk l) (b cb : Nat) (dc rg nd : Int) {d w : Nat} {torn : Int} {hd : Hp} (hdk : IsDk (dk l) d hd) {c : CS} (okc : CsOk c) {v : Value} {hv : Hp} (hs : IsSl 43 c.lg v hv) (x : Cfg) :
  Ct prog 39 [.pointer (some ⟨b, 0, none⟩), .agg (List.toArray x.enc)] [LgBk b cb dc rg nd d w true, CsBk cb c v, hv, WBk w d (lastN l) torn, hd]
   (fun r H' => r = .tuple #[.bool (entLS l c x).1.1, .int .i64 (entLS l c x).1.2] ∧ LPost b cb dc rg nd d w torn (entLS l c x).2.1 (entLS l c x).2.2 H') := by
 have hrm := room_ct ok hdk (w := w) (seg := lastN l) (torn := torn) 2
 cases hr : roomB l 2 with
 | false =>
  have e0 : entLS l c x = ((false, 51), c, l) := if_neg (by rw [hr]; decide)
  rw [e0]
  rw [hr] at hrm
  refine Ct.mk' func39 rfl rfl rfl (fun g R => ?_)
  try simp only [ca]
  simp only [na]
  repeat' (first | refine runS ?_ | refine bx rfl (fun _ => ?_) | refine WX.callQ rfl hrm rfl ?_ | fail)
  exact D.fin2 [LgBk b cb dc rg nd d w true, CsBk cb c v, hv, WBk w d (lastN l) torn, hd] _ rfl rfl rfl ⟨rfl, v, hv, hd, rfl, hs, hdk⟩
 | true =>
  rw [hr] at hrm
  have htk := center_ct okc cb hs x
  have okt := okc.enter x
  have e0 : entLS l c x = (if (c.enter x).1.2 = 0 then ((c.enter x).1, (c.enter x).2, lsync (ladd1 (if (c.enter x).1.1 = true then (lcut l).1 else l) (recN x (c.enter x).2.bs)).1) else ((c.enter x).1, (c.enter x).2, l)) := if_pos hr
  rw [e0]
  clear e0
  generalize c.enter x = t at htk okt ⊢
  obtain ⟨⟨rst, er⟩, c'⟩ := t
  simp only [] at htk okt ⊢
  by_cases he : er = 0
  ·subst he
   rw [if_pos rfl]
   cases rst with
   | true =>
    rw [if_pos rfl]
    have hcut := cut_ct ok hdk (w := w) (torn := torn)
    have okk := ok.cut
    refine Ct.mk' func39 rfl rfl rfl (fun g R => ?_)
    try simp only [ca]
    simp only [na]
    repeat' (first | refine runS ?_ | refine bx rfl (fun _ => ?_) | refine WX.callQ rfl hrm rfl ?_ | fail)
    rename_i b3
    refine W.mixN 8 [true, true, true, true, true, false, true, true, true, true] [LgBk b cb dc rg nd d w true, CfBk b3 x] Tryz.mix (by kernel_rfl) ?_
    repeat' (first | refine runS ?_ | refine lAN (t := 34) x.enc x.enc rfl ?_ | fail)
    refine WX.call rfl htk rfl ?_
    rintro _ _ ⟨rfl, v', hv', rfl, hs'⟩
    simp only [ca, na]
    try refine runS ?_
    refine WX.call rfl hcut rfl ?_
    rintro _ _ ⟨hd0, rfl, rfl, hdk0⟩
    simp only [ca, na]
    have hbs := cbase_ct c' cb v'
    try refine runS ?_
    refine W.mixN 8 [true, true, true, true, true, true, true, true, true, false, true, false, false] [LgBk b cb dc rg nd d w true, CfBk b3 x] Tryz.mix (by kernel_rfl) ?_
    repeat' (first | refine runS ?_ | refine lAN (t := 34) x.enc x.enc rfl ?_ | refine WX.callQ rfl hbs rfl ?_ | refine bdN (t := 108) (recN x c'.bs).enc ?_ | fail)
    refine I.bs ?_
    refine WX.lit (ys := [recN x c'.bs]) rfl rfl rfl rfl rfl rfl (by decide) rfl (fun v2 h2 hs2 => ?_)
    try refine runS ?_
    have hadd := add_ct okk hdk0 hs2.rs (by simp) (fun r hr => by
     rw [mem_singleton.1 hr]
     show (0 : Nat) ≤ 1073741824
     omega) (w := w) (torn := torn)
    rw [ladd_1] at hadd
    refine WX.call rfl hadd rfl ?_
    rintro _ _ ⟨hd1, rfl, rfl, hdk1⟩
    have hsy := sync_ct (LOk.add1 okk (recN x c'.bs)) hdk1 (w := w) (seg := lastN (ladd1 (lcut l).1 (recN x c'.bs)).1) (torn := torn)
    simp only [ca, na]
    try refine runS ?_
    refine WX.call rfl hsy rfl ?_
    rintro _ _ ⟨hd2, rfl, rfl, hdk2⟩
    simp only [ca, na]
    try refine runS ?_
    exact D.fin2 [LgBk b cb dc rg nd d w true, CsBk cb c' v', hv', WBk w d (lastN (ladd1 (lcut l).1 (recN x c'.bs)).1) torn, hd2] _ rfl rfl rfl ⟨rfl, v', hv', hd2, by rw [lastN_sync], hs', hdk2⟩
   | false =>
    rw [if_neg (by decide)]
    refine Ct.mk' func39 rfl rfl rfl (fun g R => ?_)
    try simp only [ca]
    simp only [na]
    repeat' (first | refine runS ?_ | refine bx rfl (fun _ => ?_) | refine WX.callQ rfl hrm rfl ?_ | fail)
    rename_i b3
    refine W.mixN 8 [true, true, true, true, true, false, true, true, true, true] [LgBk b cb dc rg nd d w true, CfBk b3 x] Tryz.mix (by kernel_rfl) ?_
    repeat' (first | refine runS ?_ | refine lAN (t := 34) x.enc x.enc rfl ?_ | fail)
    refine WX.call rfl htk rfl ?_
    rintro _ _ ⟨rfl, v', hv', rfl, hs'⟩
    simp only [ca, na]
    try refine runS ?_
    have hbs := cbase_ct c' cb v'
    skip
    refine W.mixN 8 [true, true, true, true, true, true, true, true, true, false, true, false, false] [LgBk b cb dc rg nd d w true, CfBk b3 x] Tryz.mix (by kernel_rfl) ?_
    repeat' (first | refine runS ?_ | refine lAN (t := 34) x.enc x.enc rfl ?_ | refine WX.callQ rfl hbs rfl ?_ | refine bdN (t := 108) (recN x c'.bs).enc ?_ | fail)
    refine I.bs ?_
    refine WX.lit (ys := [recN x c'.bs]) rfl rfl rfl rfl rfl rfl (by decide) rfl (fun v2 h2 hs2 => ?_)
    try refine runS ?_
    have hadd := add_ct ok hdk hs2.rs (by simp) (fun r hr => by
     rw [mem_singleton.1 hr]
     show (0 : Nat) ≤ 1073741824
     omega) (w := w) (torn := torn)
    rw [ladd_1] at hadd
    refine WX.call rfl hadd rfl ?_
    rintro _ _ ⟨hd1, rfl, rfl, hdk1⟩
    have hsy := sync_ct (LOk.add1 ok (recN x c'.bs)) hdk1 (w := w) (seg := lastN (ladd1 l (recN x c'.bs)).1) (torn := torn)
    simp only [ca, na]
    try refine runS ?_
    refine WX.call rfl hsy rfl ?_
    rintro _ _ ⟨hd2, rfl, rfl, hdk2⟩
    simp only [ca, na]
    try refine runS ?_
    exact D.fin2 [LgBk b cb dc rg nd d w true, CsBk cb c' v', hv', WBk w d (lastN (ladd1 l (recN x c'.bs)).1) torn, hd2] _ rfl rfl rfl ⟨rfl, v', hv', hd2, by rw [lastN_sync], hs', hdk2⟩
  ·rw [if_neg he]
   refine Ct.mk' func39 rfl rfl rfl (fun g R => ?_)
   try simp only [ca]
   simp only [na]
   repeat' (first | refine runS ?_ | refine bx rfl (fun _ => ?_) | refine WX.callQ rfl hrm rfl ?_ | fail)
   rename_i b3
   refine W.mixN 8 [true, true, true, true, true, false, true, true, true, true] [LgBk b cb dc rg nd d w true, CfBk b3 x] Tryz.mix (by kernel_rfl) ?_
   repeat' (first | refine runS ?_ | refine lAN (t := 34) x.enc x.enc rfl ?_ | fail)
   refine WX.call rfl htk rfl ?_
   rintro _ _ ⟨rfl, v', hv', rfl, hs'⟩
   simp only [ca, na]
   try refine runS ?_
   exact D.fin2 [LgBk b cb dc rg nd d w true, CsBk cb c' v', hv', WBk w d (lastN l) torn, hd] _ rfl rfl rfl ⟨rfl, v', hv', hd, rfl, hs', hdk⟩
end Go.Proofs.YtejfahjgfedliaaGreat

namespace Go.Proofs.YtejfahjgfedliaaGreat
open Go Go.Sl Go.Proofs.Tryz
theorem LOk.nilD : IsDk {} = IsDk (dk []) := rfl
theorem lnew_ct (dc rg nd : Int) : Ct prog 12 [.int .i64 dc, .int .i64 rg, .int .i64 nd] []
  (fun r H' => ∃ b cb d w hd, r = .pointer (some ⟨b, 0, none⟩) ∧ H' = [LgBk b cb dc rg nd d w true, CsBk cb (CS.new dc rg nd) (.slice none 0 0), WBk w d (lastN []) 0, hd] ∧ IsDk (dk []) d hd) := by
 refine Ct.mk' func12 rfl rfl rfl (fun g R => ?_)
 try simp only [ca]
 simp only [na]
 try refine runS ?_
 refine WX.call rfl dnew_ct rfl ?_
 rintro _ _ ⟨d, h0, rfl, rfl, hd0⟩
 have hd0 : IsDk (dk []) d h0 := hd0
 simp only [ca, na]
 repeat' (first | refine runS ?_ | refine bx rfl (fun _ => ?_) | refine bdN [.pointer none, .int .i64 dc, .int .i64 rg, .int .i64 nd, .pointer (some ⟨d, 0, none⟩), .pointer none, .bool true] ?_ | fail)
 rename_i b
 refine WX.call rfl (open_whole LOk.nil hd0) rfl ?_
 rintro _ _ ⟨w, u, h1, ho, rfl, rfl, hd1, hs1⟩
 simp only [ca, na]
 try refine runS ?_
 refine I.st ?_
 refine stN [.pointer none, .int .i64 dc, .int .i64 rg, .int .i64 nd, .pointer (some ⟨d, 0, none⟩), .pointer none, .bool true] [.pointer none, .int .i64 dc, .int .i64 rg, .int .i64 nd, .pointer (some ⟨d, 0, none⟩), .pointer (some ⟨w, 0, none⟩), .bool true] rfl rfl ?_
 try refine runS ?_
 refine WX.call rfl (cnew_ct dc rg nd) rfl ?_
 rintro _ _ ⟨cb, rfl, rfl⟩
 simp only [ca, na]
 try refine runS ?_
 refine I.st ?_
 refine stN [.pointer none, .int .i64 dc, .int .i64 rg, .int .i64 nd, .pointer (some ⟨d, 0, none⟩), .pointer (some ⟨w, 0, none⟩), .bool true] [.pointer (some ⟨cb, 0, none⟩), .int .i64 dc, .int .i64 rg, .int .i64 nd, .pointer (some ⟨d, 0, none⟩), .pointer (some ⟨w, 0, none⟩), .bool true] rfl rfl ?_
 try refine runS ?_
 exact D.fin1 [LgBk b cb dc rg nd d w true, CsBk cb (CS.new dc rg nd) (.slice none 0 0), WBk w d (lastN []) 0, h1] _ rfl rfl ⟨b, cb, d, w, h1, rfl, rfl, hd1⟩
theorem lcrashU_ct {l : List Lf} (ok : LOk l) (b cb : Nat) (dc rg nd : Int) {d w : Nat} {seg torn : Int} {hd : Hp} (hdk : IsDk (dk l) d hd) (c : CS) (v : Value) {keep : Int} (hk1 : -9223372036854775808 ≤ keep) (hk2 : keep ≤ 9223372036854775807) :
  Ct prog 21 [.pointer (some ⟨b, 0, none⟩), .int .i64 keep] [LgBk b cb dc rg nd d w true, CsBk cb c v, WBk w d seg torn, hd]
   (fun r H' => r = .tuple #[] ∧ ∃ cb' hd', H' = [LgBk b cb' dc rg nd d w false, CsBk cb' (CS.new dc rg nd) (.slice none 0 0), WBk w d seg torn, hd'] ∧ IsDk ⟨crashL l keep.toNat, []⟩ d hd') := by
 have hcr := crashD_ct ok hdk hk1 hk2
 refine Ct.mk' func21 rfl rfl rfl (fun g R => ?_)
 try simp only [ca]
 simp only [na]
 try refine runS ?_
 refine WX.call rfl hcr rfl ?_
 rintro _ _ ⟨hd', rfl, rfl, hdk'⟩
 simp only [ca, na]
 try refine runS ?_
 refine I.st ?_
 refine stN [.pointer (some ⟨cb, 0, none⟩), .int .i64 dc, .int .i64 rg, .int .i64 nd, .pointer (some ⟨d, 0, none⟩), .pointer (some ⟨w, 0, none⟩), .bool true] [.pointer (some ⟨cb, 0, none⟩), .int .i64 dc, .int .i64 rg, .int .i64 nd, .pointer (some ⟨d, 0, none⟩), .pointer (some ⟨w, 0, none⟩), .bool false] rfl rfl ?_
 try refine runS ?_
 refine W.hp (H' := [hd', LgBk b cb dc rg nd d w false, CsBk cb c v, WBk w d seg torn, R]) rfl ?_
 refine W.mixN 8 (List.replicate 13 true ++ [false]) [LgBk b cb dc rg nd d w false] Tryz.mix (by kernel_rfl) ?_
 try refine runS ?_
 refine WX.call rfl (cnew_ct dc rg nd) rfl ?_
 rintro _ _ ⟨cb', rfl, rfl⟩
 simp only [ca, na]
 try refine runS ?_
 refine I.st ?_
 refine stN [.pointer (some ⟨cb, 0, none⟩), .int .i64 dc, .int .i64 rg, .int .i64 nd, .pointer (some ⟨d, 0, none⟩), .pointer (some ⟨w, 0, none⟩), .bool false] [.pointer (some ⟨cb', 0, none⟩), .int .i64 dc, .int .i64 rg, .int .i64 nd, .pointer (some ⟨d, 0, none⟩), .pointer (some ⟨w, 0, none⟩), .bool false] rfl rfl ?_
 try refine runS ?_
 exact D.finE [LgBk b cb' dc rg nd d w false, CsBk cb' (CS.new dc rg nd) (.slice none 0 0), WBk w d seg torn, hd'] _ rfl ⟨rfl, cb', hd', rfl, hdk'⟩
theorem lcrashD_ct (b cb : Nat) (dc rg nd : Int) (d w : Nat) (keep : Int) :
  Ct prog 21 [.pointer (some ⟨b, 0, none⟩), .int .i64 keep] [LgBk b cb dc rg nd d w false] (fun r H' => r = .tuple #[] ∧ H' = [LgBk b cb dc rg nd d w false]) := by
 refine Ct.mk' func21 rfl rfl rfl (fun g R => ?_)
 try simp only [ca]
 simp only [na]
 try refine runS ?_
 exact D.finE [LgBk b cb dc rg nd d w false] _ rfl ⟨rfl, rfl⟩
end Go.Proofs.YtejfahjgfedliaaGreat

namespace Go.Sl
open Go
section
variable {g : World} {P : Program} {Q : Exit → Act → World → Prop} {n : Nat} {L : Fm} {H : HH}
def BkJ (g : World) (n : Nat) {α : Type} (I : α → Prop) (L' : α → Fm) (H' : α → HH) : Act → World → Prop := fun a w => ∃ i, I i ∧ At g n (L' i) (H' i) a w
theorem least_nat {p : Nat → Prop} (h : ∃ v, p v) : ∃ v, p v ∧ ∀ u, p u → v ≤ u := by
 obtain ⟨v, hv⟩ := h
 induction v using Nat.strongRecOn with
 | _ v ih =>
  by_cases hl : ∃ u, u < v ∧ p u
  ·obtain ⟨u, hu, hp⟩ := hl
   exact ih u hu hp
  ·exact ⟨v, hv, fun u hu => Nat.le_of_not_lt fun h => hl ⟨u, h, hu⟩⟩
theorem W.scopeB {α : Type} {c rest : Code} (l : Nat) (hf : findLabel c l = some rest) (I : α → Prop) (L' : α → Fm) (H' : α → HH) (μ : α → Nat)
  (first : W g P c (Exit.jump l (BkJ g n I L' H') Q) n L H)
  (pass : ∀ i, I i → W g P rest (Exit.jump l (BkJ g n (fun j => I j ∧ μ j < μ i) L' H') Q) n (L' i) (H' i)) : W g P (.scope c) Q n L H := .mk fun a w ha hw => by
 have key : ∀ (a : Act) (w : World), ∃ v, (∀ i, I i → At g n (L' i) (H' i) a w → v ≤ μ i) ∧ (BkJ g n I L' H' a w → ∃ i, I i ∧ At g n (L' i) (H' i) a w ∧ μ i = v) := fun a w => by
  by_cases h : BkJ g n I L' H' a w
  ·obtain ⟨i0, h1, h2⟩ := h
   obtain ⟨v, ⟨i, h3, h4, h5⟩, h6⟩ := least_nat (p := fun v => ∃ i, I i ∧ At g n (L' i) (H' i) a w ∧ μ i = v) ⟨μ i0, i0, h1, h2, rfl⟩
   exact ⟨v, fun j k1 k2 => h6 _ ⟨j, k1, k2, rfl⟩, fun _ => ⟨i, h3, h4, h5⟩⟩
  ·exact ⟨0, fun _ _ _ => Nat.zero_le _, fun h' => absurd h' h⟩
 let m : Act → World → Nat := fun a w => Classical.choose (key a w)
 have hm : ∀ a w i, I i → At g n (L' i) (H' i) a w → m a w ≤ μ i := fun a w => (Classical.choose_spec (key a w)).1
 have hm2 : ∀ a w, BkJ g n I L' H' a w → ∃ i, I i ∧ At g n (L' i) (H' i) a w ∧ μ i = m a w := fun a w => (Classical.choose_spec (key a w)).2
 refine wp_scope_jumps l (BkJ g n I L' H') m hf (first a w ha hw) fun a w hJ => ?_
 obtain ⟨i, h1, ⟨h2, h3⟩, h4⟩ := hm2 a w hJ
 refine wp_mono (pass i h1 a w h2 h3) fun e a' w' hq => ?_
 cases e with
 | goto l' =>
  obtain ⟨e1, j, ⟨h5, h6⟩, h7⟩ := hq
  exact ⟨e1, ⟨j, h5, h7⟩, by rw [← h4]; exact Nat.lt_of_le_of_lt (hm a' w' j h5 h7) h6⟩
 | _ => exact hq
theorem W.into {c : Code} {L' : Fm} {H' : HH} (h : W g P c Q n L' H') (f : Fsub L L') (s : Hsub H H') : W g P c Q n L H := .mk fun a w ha hw => h a w (ha.sub f) (s.on hw)
theorem D.jmpB {α : Type} {l : Nat} {I : α → Prop} {L' : α → Fm} {H' : α → HH} (i : α) (hi : I i) (f : Fsub L (L' i)) (s : Hsub H (H' i)) : D g (Exit.jump l (BkJ g n I L' H') Q) (.goto l) n L H :=
 .mk fun _ _ ha hw => ⟨rfl, i, hi, ha.sub f, s.on hw⟩
end
end Go.Sl

namespace Go.Proofs.YtejfahjgfedliaaGreat
open Go Go.Sl Go.Proofs.Tryz List
theorem lstartU_ct (b cb : Nat) (dc rg nd : Int) (d w : Nat) :
  Ct prog 15 [.pointer (some ⟨b, 0, none⟩)] [LgBk b cb dc rg nd d w true] (fun r H' => r = .tuple #[] ∧ H' = [LgBk b cb dc rg nd d w true]) := by
 refine Ct.mk' func15 rfl rfl rfl (fun g R => ?_)
 try simp only [ca]
 simp only [na]
 repeat' (first | refine runS ?_ | refine W.scopeF 0 rfl ?_ | fail)
 first | exact D.finE [LgBk b cb dc rg nd d w true] _ rfl ⟨rfl, rfl⟩ | exact D.fin0 [LgBk b cb dc rg nd d w true] _ rfl ⟨rfl, rfl⟩
abbrev RcBk (b : Nat) (r : Rec) : Hp := [(b, .cells (List.toArray r.enc) 108 (0, 0))]
def rbK (nd : Int) (rs : List Rec) (i : Nat) : Rb := rbF nd (rs.take i)
theorem rbK_succ {nd : Int} {rs : List Rec} {i : Nat} {r : Rec} (h : rs[i]? = some r) : rbK nd rs (i + 1) = rbStep nd (rbK nd rs i) r := by
 unfold rbK; rw [take_add_one, h]; exact rbF_snoc nd _ r
structure StA where
 (w b3 b5 i : Nat)
 (u v : Value)
 (h ho hl : Hp)
 pr : Rec
 f : Rb
set_option maxRecDepth 10000 in
set_option maxHeartbeats 1000000 in
theorem lstartD_ct (b cb : Nat) (dc rg nd : Int) {d w : Nat} {hd : Hp} {l : List Lf} {rs : List Rec} {seg torn : Int}
  (hop : Ct prog 45 [.pointer (some ⟨d, 0, none⟩)] [hd] (fun res H' => ∃ w' u h' ho, res = .tuple #[.pointer (some ⟨w', 0, none⟩), u] ∧ H' = [WBk w' d seg torn, h', ho] ∧ IsDk (dk l) d h' ∧ IsSl 108 rs u ho))
  (hl : rs.length ≤ 1000000) (hrs : ∀ r ∈ rs, r.k = 1 ∧ EntR r.e ∨ r.k = 2 ∧ RightC r.c) :
  Ct prog 15 [.pointer (some ⟨b, 0, none⟩)] [LgBk b cb dc rg nd d w false, hd]
   (fun r H' => r = .tuple #[] ∧ ∃ cb' w' hd', ∃ v hv, H' = [LgBk b cb' dc rg nd d w' true, CsBk cb' (CS.restore dc rg nd (rbF nd rs).x (rbF nd rs).sn (rbF nd rs).bs (rbF nd rs).es) v, hv, WBk w' d seg torn, hd'] ∧
    IsSl 43 (CS.restore dc rg nd (rbF nd rs).x (rbF nd rs).sn (rbF nd rs).bs (rbF nd rs).es).lg v hv ∧ IsDk (dk l) d hd') := by
 refine Ct.mk' func15 rfl rfl rfl (fun g R => ?_)
 try simp only [ca]
 simp only [na]
 refine W.scopeB (α := StA) 0 rfl (fun a => a.i ≤ rs.length ∧ IsDk (dk l) d a.h ∧ IsSl 108 rs a.u a.ho ∧ IsSl 43 a.f.es a.v a.hl ∧ a.f.es.length ≤ a.i ∧ a.f = rbK nd rs a.i)
  (fun a => [(0, .pointer (some ⟨b, 0, none⟩)), (2, a.u), (3, .pointer (some ⟨a.b3, 0, none⟩)), (4, a.v), (5, .pointer (some ⟨a.b5, 0, none⟩)), (6, .int .i64 (a.i : Int)), (7, .int .i64 a.f.sn), (8, .int .i64 a.f.bs)])
  (fun a => [RcBk a.b5 a.pr, a.hl, CfBk a.b3 a.f.x, WBk a.w d seg torn, a.h, a.ho, LgBk b cb dc rg nd d a.w true, R]) (fun a => rs.length - a.i) ?_ ?_
 ·try refine runS ?_
  refine I.st ?_
  refine stN [.pointer (some ⟨cb, 0, none⟩), .int .i64 dc, .int .i64 rg, .int .i64 nd, .pointer (some ⟨d, 0, none⟩), .pointer (some ⟨w, 0, none⟩), .bool false] [.pointer (some ⟨cb, 0, none⟩), .int .i64 dc, .int .i64 rg, .int .i64 nd, .pointer (some ⟨d, 0, none⟩), .pointer (some ⟨w, 0, none⟩), .bool true] rfl rfl ?_
  try refine runS ?_
  refine WX.call rfl hop rfl ?_
  rintro _ _ ⟨w', u, h', ho, rfl, rfl, hdk, hsr⟩
  have hrr := hsr.rs
  obtain ⟨up, uc, rfl⟩ := hrr.len
  simp only [ca, na]
  try refine runS ?_
  refine I.st ?_
  refine stN [.pointer (some ⟨cb, 0, none⟩), .int .i64 dc, .int .i64 rg, .int .i64 nd, .pointer (some ⟨d, 0, none⟩), .pointer (some ⟨w, 0, none⟩), .bool true] [.pointer (some ⟨cb, 0, none⟩), .int .i64 dc, .int .i64 rg, .int .i64 nd, .pointer (some ⟨d, 0, none⟩), .pointer (some ⟨w', 0, none⟩), .bool true] rfl rfl ?_
  repeat' (first | refine runS ?_ | refine al (fun _ => ?_) | fail)
  rename_i b3 b5
  refine W.nilH ?_
  refine W.hp (H' := [[], RcBk b5 Rec.z, CfBk b3 Rb.z.x, WBk w' d seg torn, h', ho, LgBk b cb dc rg nd d w' true, R]) rfl ?_
  obtain ⟨i, hi0⟩ : ∃ i : Nat, i = 0 := ⟨_, rfl⟩
  obtain ⟨f, hf0⟩ : ∃ f, f = Rb.z := ⟨_, rfl⟩
  obtain ⟨v, hv0⟩ : ∃ v : Value, v = .slice none 0 0 := ⟨_, rfl⟩
  obtain ⟨pr, hp0⟩ : ∃ pr, pr = Rec.z := ⟨_, rfl⟩
  obtain ⟨hlg, hh0⟩ : ∃ h : Hp, h = [] := ⟨_, rfl⟩
  have hf : f = rbK nd rs i := by rw [hf0, hi0]; rfl
  have hsv : IsSl 43 f.es v hlg := by rw [hf0, hv0, hh0]; exact IsSl.nil _
  have hel : f.es.length ≤ i := by rw [hf0]; exact Nat.zero_le _
  have hi : i ≤ rs.length := by rw [hi0]; exact Nat.zero_le _
  refine W.into (L' := [(31, .bool (decide ((i : Int) = (rs.length : Int)))), (0, .pointer (some ⟨b, 0, none⟩)), (2, .slice up rs.length uc), (3, .pointer (some ⟨b3, 0, none⟩)), (4, v), (5, .pointer (some ⟨b5, 0, none⟩)), (6, .int .i64 (i : Int)), (7, .int .i64 f.sn), (8, .int .i64 f.bs)])
   (H' := [RcBk b5 pr, hlg, CfBk b3 f.x, WBk w' d seg torn, h', ho, LgBk b cb dc rg nd d w' true, R]) ?_ (by subst hi0 hf0 hv0; exact (by repeat (first | exact Fsub.nil | refine Fsub.cons rfl ?_))) (by subst hp0 hh0 hf0; exact (Hsub.of_picks inferInstance))
  clear hi0 hf0 hv0 hp0 hh0
  have hr1 := hsv.rs
  by_cases hlt : i < rs.length
  ·obtain ⟨r, hr⟩ : ∃ r, rs[i]? = some r := ⟨_, List.getElem?_eq_getElem hlt⟩
   have hsu := rbK_succ (nd := nd) hr
   rw [← hf] at hsu
   rcases hrs r (mem_of_getElem? hr) with ⟨k1, hre⟩ | ⟨k2, hrc⟩
   ·have hst : rbStep nd (f) r = ⟨(f).x, (f).sn, (f).bs, (f).es ++ [r.e]⟩ := if_pos k1
    rw [hst] at hsu
    repeat' (first | refine runS ?_ | refine WX.loadEW rfl hrr hr rfl rfl ?_ | refine lAN (t := 43) r.enc r.e.enc rfl ?_ | refine sGW (pr).enc r.enc rfl rfl ?_ | fail)
    refine I.bs ?_
    refine WX.lit (ys := [r.e]) rfl rfl rfl rfl rfl rfl (by decide) rfl (fun v2 h2 hs2 => ?_)
    skip
    refine WX.app rfl rfl hsv hs2.rs rfl rfl (by decide) (by simp only [length_cons, length_nil]; omega) rfl (fun v3 h3 hs3 => ?_)
    try refine runS ?_
    exact D.jmpB (⟨w', b3, b5, i + 1, .slice up rs.length uc, v3, h', ho, h3, r, ⟨(f).x, (f).sn, (f).bs, (f).es ++ [r.e]⟩⟩ : StA) ⟨by simp only []; omega, hdk, hsr, hs3, by simp only [length_append, length_cons, length_nil]; omega, hsu.symm⟩ (by repeat (first | exact Fsub.nil | refine Fsub.cons rfl ?_)) (Hsub.of_picks inferInstance)
   ·have hst : rbStep nd (f) r = ⟨r.c, if 0 < sinceO (some (chOf r.c)) nd then sinceO (some (chOf r.c)) nd else (f).sn, r.base, (f).es⟩ := if_neg (by omega)
    rw [hst] at hsu
    obtain ⟨c, hcx, okc, hch⟩ := rightC_ch hrc
    have hsi := sinceO_ct (ChO.some okc) nd
    rw [show cfO (some c) = r.c from hcx.symm] at hsi
    rw [hch] at hsu
    generalize sinceO (some c) nd = z at hsi hsu
    repeat' (first | refine runS ?_ | refine WX.loadEW rfl hrr hr rfl rfl ?_ | refine sGW (pr).enc r.enc rfl rfl ?_ | fail)
    refine W.mixN 8 [true, true, true, true, false] [RcBk b5 r] Tryz.mix (by kernel_rfl) ?_
    repeat' (first | refine runS ?_ | refine lAN (t := 34) r.enc r.c.enc rfl ?_ | refine sGW (f).x.enc r.c.enc rfl rfl ?_ | fail)
    refine W.quiet Tryz.mix (by kernel_rfl) ?_
    by_cases hz : 0 < z
    ·rw [if_pos hz] at hsu
     repeat' (first | refine runS ?_ | refine lAN (t := 34) r.c.enc r.c.enc rfl ?_ | refine WX.callQ rfl hsi rfl ?_ | fail)
     exact D.jmpB (⟨w', b3, b5, i + 1, .slice up rs.length uc, v, h', ho, hlg, r, ⟨r.c, z, r.base, (f).es⟩⟩ : StA) ⟨by simp only []; omega, hdk, hsr, hsv, by simp only []; omega, hsu.symm⟩ (by repeat (first | exact Fsub.nil | refine Fsub.cons rfl ?_)) (Hsub.of_picks inferInstance)
    ·rw [if_neg hz] at hsu
     repeat' (first | refine runS ?_ | refine lAN (t := 34) r.c.enc r.c.enc rfl ?_ | refine WX.callQ rfl hsi rfl ?_ | fail)
     exact D.jmpB (⟨w', b3, b5, i + 1, .slice up rs.length uc, v, h', ho, hlg, r, ⟨r.c, (f).sn, r.base, (f).es⟩⟩ : StA) ⟨by simp only []; omega, hdk, hsr, hsv, by simp only []; omega, hsu.symm⟩ (by repeat (first | exact Fsub.nil | refine Fsub.cons rfl ?_)) (Hsub.of_picks inferInstance)
  ·have hie : i = rs.length := by omega
   have hff : f = rbF nd rs := by rw [hf, hie]; unfold rbK; rw [take_length]
   have hre := crestore_ct dc rg nd (f).x (f).sn (f).bs hsv.rs (by omega)
   try refine runS ?_
   refine W.mixN 8 (List.replicate 17 true ++ [false]) [LgBk b cb dc rg nd d w' true, CfBk b3 (f).x] Tryz.mix (by kernel_rfl) ?_
   repeat' (first | refine runS ?_ | refine lAN (t := 34) (f).x.enc (f).x.enc rfl ?_ | fail)
   refine WX.call rfl hre rfl ?_
   rintro _ _ ⟨cb', v9, hv9, rfl, rfl, hs9⟩
   simp only [ca, na]
   try refine runS ?_
   refine I.st ?_
   refine stN [.pointer (some ⟨cb, 0, none⟩), .int .i64 dc, .int .i64 rg, .int .i64 nd, .pointer (some ⟨d, 0, none⟩), .pointer (some ⟨w', 0, none⟩), .bool true] [.pointer (some ⟨cb', 0, none⟩), .int .i64 dc, .int .i64 rg, .int .i64 nd, .pointer (some ⟨d, 0, none⟩), .pointer (some ⟨w', 0, none⟩), .bool true] rfl rfl ?_
   try refine runS ?_
   rw [← hff]
   first
    | exact D.finE [LgBk b cb' dc rg nd d w' true, CsBk cb' (CS.restore dc rg nd (f).x (f).sn (f).bs (f).es) v9, hv9, WBk w' d seg torn, h'] _ rfl ⟨rfl, cb', w', h', v9, hv9, rfl, hs9, hdk⟩
    | exact D.fin0 [LgBk b cb' dc rg nd d w' true, CsBk cb' (CS.restore dc rg nd (f).x (f).sn (f).bs (f).es) v9, hv9, WBk w' d seg torn, h'] _ rfl ⟨rfl, cb', w', h', v9, hv9, rfl, hs9, hdk⟩
 ·rintro ⟨w', b3, b5, i, u, v, h', ho, hlg, pr, f⟩ ⟨hi, hdk, hsr, hsv, hel, hf⟩
  simp only [] at hi hdk hsr hsv hel hf ⊢
  have hrr := hsr.rs
  obtain ⟨up, uc, rfl⟩ := hrr.len
  have hr1 := hsv.rs
  try refine runS ?_
  by_cases hlt : i < rs.length
  ·obtain ⟨r, hr⟩ : ∃ r, rs[i]? = some r := ⟨_, List.getElem?_eq_getElem hlt⟩
   have hsu := rbK_succ (nd := nd) hr
   rw [← hf] at hsu
   rcases hrs r (mem_of_getElem? hr) with ⟨k1, hre⟩ | ⟨k2, hrc⟩
   ·have hst : rbStep nd (f) r = ⟨(f).x, (f).sn, (f).bs, (f).es ++ [r.e]⟩ := if_pos k1
    rw [hst] at hsu
    repeat' (first | refine runS ?_ | refine WX.loadEW rfl hrr hr rfl rfl ?_ | refine lAN (t := 43) r.enc r.e.enc rfl ?_ | refine sGW (pr).enc r.enc rfl rfl ?_ | fail)
    refine I.bs ?_
    refine WX.lit (ys := [r.e]) rfl rfl rfl rfl rfl rfl (by decide) rfl (fun v2 h2 hs2 => ?_)
    skip
    refine WX.app rfl rfl hsv hs2.rs rfl rfl (by decide) (by simp only [length_cons, length_nil]; omega) rfl (fun v3 h3 hs3 => ?_)
    try refine runS ?_
    exact D.jmpB (⟨w', b3, b5, i + 1, .slice up rs.length uc, v3, h', ho, h3, r, ⟨(f).x, (f).sn, (f).bs, (f).es ++ [r.e]⟩⟩ : StA) ⟨⟨by simp only []; omega, hdk, hsr, hs3, by simp only [length_append, length_cons, length_nil]; omega, hsu.symm⟩, by simp only []; omega⟩ (by repeat (first | exact Fsub.nil | refine Fsub.cons rfl ?_)) (Hsub.of_picks inferInstance)
   ·have hst : rbStep nd (f) r = ⟨r.c, if 0 < sinceO (some (chOf r.c)) nd then sinceO (some (chOf r.c)) nd else (f).sn, r.base, (f).es⟩ := if_neg (by omega)
    rw [hst] at hsu
    obtain ⟨c, hcx, okc, hch⟩ := rightC_ch hrc
    have hsi := sinceO_ct (ChO.some okc) nd
    rw [show cfO (some c) = r.c from hcx.symm] at hsi
    rw [hch] at hsu
    generalize sinceO (some c) nd = z at hsi hsu
    repeat' (first | refine runS ?_ | refine WX.loadEW rfl hrr hr rfl rfl ?_ | refine sGW (pr).enc r.enc rfl rfl ?_ | fail)
    refine W.mixN 8 [true, true, true, true, false] [RcBk b5 r] Tryz.mix (by kernel_rfl) ?_
    repeat' (first | refine runS ?_ | refine lAN (t := 34) r.enc r.c.enc rfl ?_ | refine sGW (f).x.enc r.c.enc rfl rfl ?_ | fail)
    refine W.quiet Tryz.mix (by kernel_rfl) ?_
    by_cases hz : 0 < z
    ·rw [if_pos hz] at hsu
     repeat' (first | refine runS ?_ | refine lAN (t := 34) r.c.enc r.c.enc rfl ?_ | refine WX.callQ rfl hsi rfl ?_ | fail)
     exact D.jmpB (⟨w', b3, b5, i + 1, .slice up rs.length uc, v, h', ho, hlg, r, ⟨r.c, z, r.base, (f).es⟩⟩ : StA) ⟨⟨by simp only []; omega, hdk, hsr, hsv, by simp only []; omega, hsu.symm⟩, by simp only []; omega⟩ (by repeat (first | exact Fsub.nil | refine Fsub.cons rfl ?_)) (Hsub.of_picks inferInstance)
    ·rw [if_neg hz] at hsu
     repeat' (first | refine runS ?_ | refine lAN (t := 34) r.c.enc r.c.enc rfl ?_ | refine WX.callQ rfl hsi rfl ?_ | fail)
     exact D.jmpB (⟨w', b3, b5, i + 1, .slice up rs.length uc, v, h', ho, hlg, r, ⟨r.c, (f).sn, r.base, (f).es⟩⟩ : StA) ⟨⟨by simp only []; omega, hdk, hsr, hsv, by simp only []; omega, hsu.symm⟩, by simp only []; omega⟩ (by repeat (first | exact Fsub.nil | refine Fsub.cons rfl ?_)) (Hsub.of_picks inferInstance)
  ·have hie : i = rs.length := by omega
   have hff : f = rbF nd rs := by rw [hf, hie]; unfold rbK; rw [take_length]
   have hre := crestore_ct dc rg nd (f).x (f).sn (f).bs hsv.rs (by omega)
   try refine runS ?_
   refine W.mixN 8 (List.replicate 17 true ++ [false]) [LgBk b cb dc rg nd d w' true, CfBk b3 (f).x] Tryz.mix (by kernel_rfl) ?_
   repeat' (first | refine runS ?_ | refine lAN (t := 34) (f).x.enc (f).x.enc rfl ?_ | fail)
   refine WX.call rfl hre rfl ?_
   rintro _ _ ⟨cb', v9, hv9, rfl, rfl, hs9⟩
   simp only [ca, na]
   try refine runS ?_
   refine I.st ?_
   refine stN [.pointer (some ⟨cb, 0, none⟩), .int .i64 dc, .int .i64 rg, .int .i64 nd, .pointer (some ⟨d, 0, none⟩), .pointer (some ⟨w', 0, none⟩), .bool true] [.pointer (some ⟨cb', 0, none⟩), .int .i64 dc, .int .i64 rg, .int .i64 nd, .pointer (some ⟨d, 0, none⟩), .pointer (some ⟨w', 0, none⟩), .bool true] rfl rfl ?_
   try refine runS ?_
   rw [← hff]
   first
    | exact D.finE [LgBk b cb' dc rg nd d w' true, CsBk cb' (CS.restore dc rg nd (f).x (f).sn (f).bs (f).es) v9, hv9, WBk w' d seg torn, h'] _ rfl ⟨rfl, cb', w', h', v9, hv9, rfl, hs9, hdk⟩
    | exact D.fin0 [LgBk b cb' dc rg nd d w' true, CsBk cb' (CS.restore dc rg nd (f).x (f).sn (f).bs (f).es) v9, hv9, WBk w' d seg torn, h'] _ rfl ⟨rfl, cb', w', h', v9, hv9, rfl, hs9, hdk⟩
end Go.Proofs.YtejfahjgfedliaaGreat

namespace Go.Proofs.YtejfahjgfedliaaGreat
open Go Go.Sl
end Go.Proofs.YtejfahjgfedliaaGreat

namespace Go.Proofs.YtejfahjgfedliaaGreat
open Go Go.Sl List
theorem since_nn {c : Ch} (ok : ChOk c) (k : Int) : 0 ≤ sinceO (some c) k := by
 unfold sinceO
 simp only []
 cases hf : c.all.findIdx? (fun p => decide (p.nd = k)) with
 | none => exact Int.le_refl 0
 | some j =>
  obtain ⟨hj, _⟩ := List.findIdx?_eq_some_iff_getElem.1 hf
  have := (ok.rg _ (getElem_mem hj)).2.2.1
  simp only [getD_eq_getElem?_getD, List.getElem?_eq_getElem hj, Option.getD_some]
  omega
end Go.Proofs.YtejfahjgfedliaaGreat

namespace Go.Proofs.YtejfahjgfedliaaGreat
open Go Go.Sl
end Go.Proofs.YtejfahjgfedliaaGreat

namespace Go.Proofs.YtejfahjgfedliaaGreat
open Go Go.Sl List
structure LI (l : List Lf) (c : CS) (N : Int) : Prop where
 lg : LgOk l
 tl : LTell l c
 ok : CsOk c
 n : lastN l ≤ N
section
variable {l : List Lf} {c : CS} {N : Int}
theorem LI.mono {M : Int} (h : LI l c N) (hm : N ≤ M) : LI l c M := ⟨h.lg, h.tl, h.ok, Int.le_trans h.n hm⟩
theorem LI.chain {c' : CS} (h : LI l c N) (ok : CsOk c') (h1 : c'.nd = c.nd) (h2 : c'.co = c.co) (h3 : c'.sn = c.sn) (h4 : c'.bs = c.bs) (h5 : c'.lg = c.lg) (h6 : c'.du = c.du) : LI l c' N :=
 ⟨h.lg, ⟨by rw [h1, h2]; exact h.tl.x, by rw [h1, h3]; exact h.tl.sn, by rw [h1, h4]; exact h.tl.bs, by rw [h1, h5]; exact h.tl.es, by rw [h5, h6]; exact h.tl.du⟩, ok, h.n⟩
theorem LI.settle (h : LI l c N) : LI l c.settle N := by
 obtain ⟨-, -, h3, h4, h5, h6, h7, h8, -, -⟩ := settle_same c
 exact h.chain h.ok.settle h3 h4 h5 h6 h7 h8
theorem LI.nil (dc rg nd : Int) : LI [] (CS.new dc rg nd) 0 :=
 ⟨⟨LOk.nil, (fun r hr => nomatch hr), (fun r hr => nomatch hr), Nat.le_refl _⟩, ⟨rfl, rfl, rfl, rfl, Nat.zero_le _⟩, CsOk.new dc rg nd, Int.le_refl _⟩
theorem LI.push (h : LI l c N) {e : Ent} (he : EntR e) (hl : c.lg.length < 256) (hr : roomB l 1 = true) (hN : N < 1099511627776) : LI (ladd1 l (recW e)).1 (c.push e) (N + 1) := by
 have hn := h.n
 obtain ⟨-, h2, h3, h4⟩ := ladd_room h.lg.ok (n := 1) (by decide) hr (by omega) (recW_code he)
 have htop := h.lg.top
 have hdu := h.tl.du
 have hd := h.ok.du
 have hlen : c.len = (c.lg.length : Int) := rfl
 have e1 : rbF (c.push e).nd (outF (recs (ladd1 l (recW e)).1)) = ⟨(rbF c.nd (outF (recs l))).x, (rbF c.nd (outF (recs l))).sn, (rbF c.nd (outF (recs l))).bs, (rbF c.nd (outF (recs l))).es ++ [e]⟩ := by
  rw [h2, outF_snoc, if_neg (show ¬ (recW e).k = 3 from (by decide : ¬ (1 : Int) = 3)), rbF_snoc]; rfl
 refine ⟨⟨h.lg.ok.add1 _, fun r hr => ?_, ?_, ?_⟩, ⟨?_, ?_, ?_, ?_, ?_⟩, h.ok.push hl he, by omega⟩
 ·rw [h2] at hr
  rcases mem_append.1 hr with hr | hr
  ·exact h.lg.re r hr
  ·rw [mem_singleton.1 hr]; exact .inl ⟨rfl, he⟩
 ·rw [h2, h3, drop_append_of_le_length htop]
  intro r hr
  rcases mem_append.1 hr with hr | hr
  ·exact h.lg.loose r hr
  ·rw [mem_singleton.1 hr]; rfl
 ·rw [h2, h3, length_append]; omega
 ·rw [e1]; exact h.tl.x
 ·rw [e1]; exact h.tl.sn
 ·rw [e1]; exact h.tl.bs
 ·rw [e1]; show _ ++ [e] = c.lg ++ [e]; rw [h.tl.es]
 ·rw [h2, h3, length_append]
  show _ ≤ (c.lg ++ [e]).length - c.du.toNat
  rw [length_append]
  simp only [length_cons, length_nil]
  omega
theorem grown_push (l : List Lf) (c c' : CS) (e : Ent) (h : c'.lg = c.lg ++ [e]) : grownL l c' c.len = (ladd1 l (recW e)).1 := by
 unfold grownL
 have h1 : c'.len = c.len + 1 := by unfold CS.len; rw [h]; simp
 rw [if_pos (by omega), h, show c.len.toNat = c.lg.length from rfl, getD_eq_getElem?_getD, List.getElem?_concat_length]; rfl
theorem grown_same (l : List Lf) (c : CS) : grownL l c c.len = l := by unfold grownL; rw [if_neg (by omega)]
def Grew (c c' : CS) : Prop := c' = c ∨ ∃ e, EntR e ∧ c.lg.length < 256 ∧ (c' = c.push e ∨ c' = (c.push e).settle)
theorem LI.grew (h : LI l c N) {c' : CS} (hg : Grew c c') (hr : roomB l 1 = true) (hN : N < 1099511627776) : LI (grownL l c' c.len) c' (N + 1) := by
 rcases hg with rfl | ⟨e, he, hl, rfl | rfl⟩
 ·rw [grown_same]; exact h.mono (by omega)
 ·rw [grown_push l c _ e rfl]; exact h.push he hl hr hN
 ·rw [grown_push l c _ e (settle_same (c.push e)).2.2.2.2.2.2.1]; exact (h.push he hl hr hN).settle
theorem Grew.take (c : CS) (f ep ix : Int) (e : Ent) : Grew c (c.take f ep ix e).2 := by
 unfold CS.take
 split
 ·rename_i h
  exact .inr ⟨e, h.2.2.2.2.1, by have := h.2.2.2.2.2; simp only [CS.len] at this; omega, .inr rfl⟩
 ·exact .inl rfl
theorem Grew.inject (c : CS) (e : Ent) : Grew c (c.inject e).2 := by
 unfold CS.inject
 repeat' split
 all_goals first | exact .inl rfl | skip
 rename_i h1 _ _ _ h2
 simp only [not_or, Classical.not_not] at h1
 exact .inr ⟨e, h1.1, by simp only [CS.len] at h2; omega, .inr rfl⟩
theorem Grew.put (c : CS) (key val : ByteArray) (dead : Bool) (deps : V9) (clock cl op : Int) : Grew c (c.putS key val dead deps clock cl op).2 := by
 unfold CS.putS
 repeat' split
 all_goals first | exact .inl rfl | skip
 rename_i h1 h2
 exact .inr ⟨_, Classical.not_not.1 h2, by simp only [not_or, CS.len] at h1; omega, .inr rfl⟩
theorem Grew.nd {c c' : CS} (hg : Grew c c') : c'.dc = c.dc ∧ c'.rg = c.rg ∧ c'.nd = c.nd := by
 rcases hg with rfl | ⟨e, he, hl, rfl | rfl⟩
 ·exact ⟨rfl, rfl, rfl⟩
 ·exact ⟨rfl, rfl, rfl⟩
 ·obtain ⟨h1, h2, h3, -⟩ := settle_same (c.push e); exact ⟨h1, h2, h3⟩
theorem LI.sync (h : LI l c N) : LI (lsync l) c.sync N := by
 have h1 : LI (lsync l) { c with du := c.len } N := by
  refine ⟨⟨h.lg.ok.sync, by rw [recs_sync]; exact h.lg.re, ?_, by rw [recs_sync, sumK_sync]; exact Nat.le_refl _⟩, ⟨by rw [recs_sync]; exact h.tl.x, by rw [recs_sync]; exact h.tl.sn, by rw [recs_sync]; exact h.tl.bs, by rw [recs_sync]; exact h.tl.es, ?_⟩, ⟨h.ok.co, ⟨h.ok.bs.1, Int.le_trans h.ok.bs.2 h.ok.du.2⟩, ⟨Int.natCast_nonneg _, Int.le_refl _⟩, h.ok.len, h.ok.es⟩, by rw [lastN_sync]; exact h.n⟩
  ·rw [recs_sync, sumK_sync, drop_length]; intro r hr; cases hr
  ·rw [recs_sync, sumK_sync, Nat.sub_self]; exact Nat.zero_le _
 exact h1.settle
theorem LI.heard (h : LI l c N) (f ep du st : Int) : LI l (c.heard f ep du st).2 N := by
 have hok := h.ok.heard f ep du st
 unfold CS.heard at hok ⊢
 split
 ·rename_i hh
  rw [if_pos hh] at hok
  obtain ⟨-, -, h3, h4, h5, h6, h7, h8, -⟩ := heard0_same c f (mn du c.du) (mn st c.du)
  obtain ⟨-, -, s3, s4, s5, s6, s7, s8, -, -⟩ := settle_same (c.heard0 f (mn du c.du) (mn st c.du))
  exact h.chain hok (s3.trans h3) (s4.trans h4) (s5.trans h5) (s6.trans h6) (s7.trans h7) (s8.trans h8)
 ·exact h
theorem cfO_chOf {x : Cfg} (h : RightC x) : cfO (some (chOf x)) = x := h.2.1
theorem code_recN {x : Cfg} (h : RightC x) {b : Int} (b0 : 0 ≤ b) (b1 : b ≤ MC) : (recN x b).code = 0 := by
 have := recN_code h.2.2 b0 b1
 rwa [h.2.1] at this
theorem ladd_cut {n : Int} {r : Rec} (hc : r.code = 0) : (ladd1 [⟨n, [cutR], 1⟩] r).1 = [⟨n, [cutR, r], 1⟩] := by
 have hle := (Rec.good hc).fr_le
 have hcl := (Rec.good cutR_code).fr_le
 have hb : (bytes [cutR]).length = cutR.fr.length := by unfold bytes; simp
 unfold ladd1
 rw [if_neg (by simpa using hc)]
 simp only [List.getLast?_singleton, dropLast_singleton]
 rw [if_neg (by rw [hb]; omega), if_neg (by rw [dk_used]; simp only [map_cons, map_nil, sum_cons, sum_nil]; rw [hb]; omega)]
 rfl
theorem LI.enter (h : LI l c N) (x : Cfg) (hN : N + 2 < 1099511627776) : LI (entLS l c x).2.2 (entLS l c x).2.1 (N + 2) := by
 have hn := h.n
 have hlo := (lastN_range h.lg.ok).1
 unfold entLS
 cases hr : roomB l 2 with
 | false => rw [if_neg (by decide)]; exact h.mono (by omega)
 | true =>
  rw [if_pos rfl]
  by_cases hR : RightC x
  rotate_left
  ·have e : c.enter x = ((false, 1), c) := if_pos hR
   rw [e, if_neg (show ¬ (1 : Int) = 0 by decide)]; exact h.mono (by omega)
  by_cases hep : x.ep ≤ (cfO c.co).ep
  ·have e : c.enter x = ((false, 80), c) := by unfold CS.enter; rw [if_neg (fun h => h hR), if_pos hep]
   rw [e, if_neg (show ¬ (80 : Int) = 0 by decide)]; exact h.mono (by omega)
  have e : c.enter x = ((c.resets x, 0), (c.enter0 x).settle) := by unfold CS.enter; rw [if_neg (fun h => h hR), if_neg hep]
  have hok : CsOk (c.enter0 x) := h.ok.enter0 hR
  have hnn := since_nn hR.2.2 c.nd
  rw [e, if_pos rfl]
  simp only []
  rw [show (c.enter0 x).settle.bs = (c.enter0 x).bs from (settle_same _).2.2.2.2.2.1]
  refine LI.settle ?_
  by_cases hs : sinceO (some (chOf x)) c.nd ≠ 0 ∧ sinceO (some (chOf x)) c.nd ≠ c.sn
  ·have e1 : c.enter0 x = ⟨c.dc, c.rg, c.nd, some (chOf x), sinceO (some (chOf x)) c.nd, 0, [], 0, 0, 0, 0, true⟩ := if_pos hs
   have e2 : c.resets x = true := decide_eq_true hs
   have hc : (recN x (c.enter0 x).bs).code = 0 := code_recN hR (by rw [e1]; exact Int.le_refl 0) (by rw [e1]; show (0 : Int) ≤ MC; decide)
   rw [e2, if_pos rfl, lcut_room h.lg.ok hr (by omega) hlo, ladd_cut hc]
   generalize hbs : (c.enter0 x).bs = bs at hc ⊢
   have hb0 : bs = 0 := by rw [← hbs, e1]
   subst hb0
   rw [e1] at hok ⊢
   have hsy : lsync [⟨lastN l + 1, [cutR, recN x 0], 1⟩] = [⟨lastN l + 1, [cutR, recN x 0], 2⟩] := rfl
   rw [hsy]
   have okc := h.lg.ok.cut
   rw [lcut_room h.lg.ok hr (by omega) hlo] at okc
   have ok2 := (okc.add1 (recN x 0)).sync
   rw [ladd_cut hc, hsy] at ok2
   have hrb : rbF c.nd (outF (recs [⟨lastN l + 1, [cutR, recN x 0], 2⟩])) = ⟨x, sinceO (some (chOf x)) c.nd, 0, []⟩ := by
    have : rbF c.nd (outF (recs [⟨lastN l + 1, [cutR, recN x 0], 2⟩])) = rbStep c.nd Rb.z (recN x 0) := rfl
    rw [this]
    unfold rbStep
    rw [if_neg (show ¬ (recN x 0).k = 1 from (by decide : ¬ (2 : Int) = 1)), show (recN x 0).c = x from rfl, if_pos (by omega)]; rfl
   refine ⟨⟨ok2, fun r hr => ?_, (fun r hr => nomatch hr), Nat.le_refl 2⟩, ⟨?_, ?_, ?_, ?_, Nat.zero_le _⟩, hok, ?_⟩
   ·rcases mem_cons.1 hr with rfl | hr
    ·exact .inr (.inr rfl)
    ·rw [mem_singleton.1 hr]; exact .inr (.inl ⟨rfl, hR⟩)
   ·show (rbF c.nd _).x = _; rw [hrb]; exact (cfO_chOf hR).symm
   ·show (rbF c.nd _).sn = _; rw [hrb]
   ·show (rbF c.nd _).bs = _; rw [hrb]
   ·show (rbF c.nd _).es = _; rw [hrb]
   ·show lastN l + 1 ≤ _; omega
  ·have e1 : c.enter0 x = ⟨c.dc, c.rg, c.nd, some (chOf x), c.sn, c.len, c.lg, c.len, c.st, 0, 0, true⟩ := if_neg hs
   have e2 : c.resets x = false := decide_eq_false hs
   have hll := h.ok.len
   have hlen : c.len = (c.lg.length : Int) := rfl
   have hb1 : (c.enter0 x).bs = c.len := by rw [e1]
   have hc : (recN x (c.enter0 x).bs).code = 0 := code_recN hR (by rw [hb1]; omega) (by rw [hb1]; simp only [MC]; omega)
   rw [e2, if_neg (by decide)]
   obtain ⟨-, g2, g3, g4⟩ := ladd_room h.lg.ok (n := 2) (by decide) hr (by omega) hc
   rw [hb1] at g2 g3 g4 hc ⊢
   rw [e1] at hok ⊢
   have hrb : rbF c.nd (outF (recs (lsync (ladd1 l (recN x c.len)).1))) = ⟨x, c.sn, c.len, c.lg⟩ := by
    rw [recs_sync, g2, outF_snoc, if_neg (show ¬ (recN x c.len).k = 3 from (by decide : ¬ (2 : Int) = 3)), rbF_snoc]
    unfold rbStep
    rw [if_neg (show ¬ (recN x c.len).k = 1 from (by decide : ¬ (2 : Int) = 1)), show (recN x c.len).c = x from rfl, h.tl.sn, h.tl.es]
    congr 1
    split
    ·rename_i hp
     exact Classical.byContradiction fun hne => hs ⟨by omega, hne⟩
    ·rfl
   refine ⟨⟨(h.lg.ok.add1 _).sync, fun r hr => ?_, ?_, by rw [recs_sync, sumK_sync]; exact Nat.le_refl _⟩, ⟨?_, ?_, ?_, ?_, ?_⟩, hok, ?_⟩
   ·rw [recs_sync, g2] at hr
    rcases mem_append.1 hr with hr | hr
    ·exact h.lg.re r hr
    ·rw [mem_singleton.1 hr]; exact .inr (.inl ⟨rfl, hR⟩)
   ·rw [recs_sync, sumK_sync, drop_length]; intro r hr; cases hr
   ·show (rbF c.nd _).x = _; rw [hrb]; exact (cfO_chOf hR).symm
   ·show (rbF c.nd _).sn = _; rw [hrb]
   ·show (rbF c.nd _).bs = _; rw [hrb]
   ·show (rbF c.nd _).es = _; rw [hrb]
   ·rw [recs_sync, sumK_sync, Nat.sub_self]; exact Nat.zero_le _
   ·rw [lastN_sync]; omega
def CS.again (c : CS) (rs : List Rec) : CS := CS.restore c.dc c.rg c.nd (rbF c.nd (outF rs)).x (rbF c.nd (outF rs)).sn (rbF c.nd (outF rs)).bs (rbF c.nd (outF rs)).es
theorem sumK_full {l : List Lf} (h : ∀ f ∈ l, f.full = f) : sumK l = (recs l).length := by
 have e : lsync l = l := by
  unfold lsync
  conv => rhs; rw [← map_id l]
  exact map_congr_left h
 rw [← sumK_sync, e]
theorem outF_mem (rs : List Rec) : ∀ r ∈ outF rs, r ∈ rs ∧ r.k ≠ 3 := by
 have key : ∀ (rs o : List Rec), ∀ r ∈ rs.foldl (fun o r => if r.k = 3 then [] else o ++ [r]) o, r ∈ o ∨ (r ∈ rs ∧ r.k ≠ 3) := by
  intro rs
  induction rs with
  | nil => intro o r h; exact .inl h
  | cons x t ih =>
   intro o r h
   rw [foldl_cons] at h
   rcases ih _ r h with h | h
   ·split at h
    ·cases h
    ·rename_i hx
     rcases mem_append.1 h with h | h
     ·exact .inl h
     ·rw [mem_singleton.1 h]; exact .inr ⟨mem_cons_self .., hx⟩
   ·exact .inr ⟨mem_cons_of_mem _ h.1, h.2⟩
 intro r h
 rcases key rs [] r h with h | h
 ·cases h
 ·exact h
theorem LI.restart {l' : List Lf} {m : Nat} (h : LI l c N) (ok' : LOk l') (hf : ∀ f ∈ l', f.full = f) (hk : sumK l ≤ m) (hm : m ≤ (recs l).length) (hr : recs l' = (recs l).take m) (hn : lastN l' ≤ lastN l) :
  LI l' (c.again (recs l')) N ∧ c.again (recs l') = CS.restore c.dc c.rg c.nd (cfO c.co) c.sn c.bs (c.lg.take (c.lg.length - ((recs l).length - m))) ∧ (c.again (recs l')).co = c.co ∧ (c.again (recs l')).sn = c.sn ∧ (c.again (recs l')).bs = c.bs ∧
   (c.again (recs l')).lg = c.lg.take (c.lg.length - ((recs l).length - m)) ∧ (c.again (recs l')).du = (c.again (recs l')).len ∧ c.du.toNat ≤ c.lg.length - ((recs l).length - m) := by
 have hn0 := h.n
 have htop := h.lg.top
 have hdu := h.tl.du
 have hd := h.ok.du
 have hlen : c.len = (c.lg.length : Int) := rfl
 obtain ⟨j, rfl⟩ : ∃ j, m = sumK l + j := ⟨m - sumK l, by omega⟩
 obtain ⟨A, hA⟩ : ∃ A, (recs l).take (sumK l) = A := ⟨_, rfl⟩
 obtain ⟨B, hB⟩ : ∃ B, (recs l).drop (sumK l) = B := ⟨_, rfl⟩
 have hAB : recs l = A ++ B := by rw [← hA, ← hB, take_append_drop]
 have hBl : B.length = (recs l).length - sumK l := by rw [← hB, length_drop]
 have hB1 : ∀ r ∈ B, r.k = 1 := by rw [← hB]; exact h.lg.loose
 have hr2 : recs l' = A ++ B.take j := by rw [hr, take_add, hA, hB]
 have hBj : ∀ r ∈ B.take j, r.k = 1 := fun r hr => hB1 r (mem_of_mem_take hr)
 have e1 : rbF c.nd (outF (recs l)) = ⟨(rbF c.nd (outF A)).x, (rbF c.nd (outF A)).sn, (rbF c.nd (outF A)).bs, (rbF c.nd (outF A)).es ++ B.map (·.e)⟩ := by
  rw [hAB, outF_app_ents _ _ hB1, rbF_app, rb_ents _ _ _ hB1]
 have e2 : rbF c.nd (outF (recs l')) = ⟨(rbF c.nd (outF A)).x, (rbF c.nd (outF A)).sn, (rbF c.nd (outF A)).bs, (rbF c.nd (outF A)).es ++ (B.take j).map (·.e)⟩ := by
  rw [hr2, outF_app_ents _ _ hBj, rbF_app, rb_ents _ _ _ hBj]
 have t1 := h.tl.x
 have t2 := h.tl.sn
 have t3 := h.tl.bs
 have t4 := h.tl.es
 rw [e1] at t1 t2 t3 t4
 simp only [] at t1 t2 t3 t4
 have hll : c.lg.length = (rbF c.nd (outF A)).es.length + B.length := by rw [← t4]; simp
 have hes : (rbF c.nd (outF A)).es ++ (B.take j).map (·.e) = c.lg.take (c.lg.length - ((recs l).length - (sumK l + j))) := by
  rw [show c.lg.length - ((recs l).length - (sumK l + j)) = (rbF c.nd (outF A)).es.length + j by omega, ← t4, take_length_add_append, map_take]
 rw [t1, t2, t3, hes] at e2
 have hag : c.again (recs l') = CS.restore c.dc c.rg c.nd (cfO c.co) c.sn c.bs (c.lg.take (c.lg.length - ((recs l).length - (sumK l + j)))) := by unfold CS.again; rw [e2]
 have hdl : c.du.toNat ≤ c.lg.length - ((recs l).length - (sumK l + j)) := by omega
 generalize hK : c.lg.length - ((recs l).length - (sumK l + j)) = K at *
 have hlk : (c.lg.take K).length = K := by rw [length_take]; omega
 obtain ⟨r, hres⟩ : ∃ r, CS.restore c.dc c.rg c.nd (cfO c.co) c.sn c.bs (c.lg.take K) = r := ⟨_, rfl⟩
 obtain ⟨-, -, s3, s4, s5, s6, s7, s8, -, -⟩ := settle_same (CS.restore0 c.dc c.rg c.nd (cfO c.co) c.sn c.bs (c.lg.take K))
 have hco : (CS.restore0 c.dc c.rg c.nd (cfO c.co) c.sn c.bs (c.lg.take K)).co = c.co := by
  show (if RightC (cfO c.co) then some (chOf (cfO c.co)) else none) = c.co
  cases hc : c.co with
  | none => exact if_neg right_z
  | some d =>
   have okd := h.ok.co d hc
   show (if RightC d.cfg then some (chOf d.cfg) else none) = some d
   rw [if_pos (rightC_of okd), chOf_cfg (by have := okd.l4; omega)]
 have hbs : (CS.restore0 c.dc c.rg c.nd (cfO c.co) c.sn c.bs (c.lg.take K)).bs = c.bs := by
  show mx 0 (mn c.bs ((c.lg.take K).length : Int)) = c.bs
  rw [hlk]
  have := h.ok.bs
  unfold mx mn
  split <;> split <;> omega
 have s3 : (CS.restore c.dc c.rg c.nd (cfO c.co) c.sn c.bs (c.lg.take K)).nd = c.nd := s3
 have s4 : (CS.restore c.dc c.rg c.nd (cfO c.co) c.sn c.bs (c.lg.take K)).co = c.co := s4.trans hco
 have s5 : (CS.restore c.dc c.rg c.nd (cfO c.co) c.sn c.bs (c.lg.take K)).sn = c.sn := s5
 have s6 : (CS.restore c.dc c.rg c.nd (cfO c.co) c.sn c.bs (c.lg.take K)).bs = c.bs := s6.trans hbs
 have s7 : (CS.restore c.dc c.rg c.nd (cfO c.co) c.sn c.bs (c.lg.take K)).lg = c.lg.take K := s7
 have s8 : (CS.restore c.dc c.rg c.nd (cfO c.co) c.sn c.bs (c.lg.take K)).du = ((c.lg.take K).length : Int) := s8
 have hok : CsOk (CS.restore c.dc c.rg c.nd (cfO c.co) c.sn c.bs (c.lg.take K)) := CsOk.restore (by rw [hlk]; have := h.ok.len; omega) fun e he => h.ok.es e (mem_of_mem_take he)
 rw [hag]
 refine ⟨⟨⟨ok', fun x hx => h.lg.re x (by rw [hr] at hx; exact mem_of_mem_take hx), ?_, by rw [sumK_full hf]; exact Nat.le_refl _⟩, ⟨?_, ?_, ?_, ?_, ?_⟩, hok, by omega⟩, rfl, s4, s5, s6, s7, ?_, hdl⟩
 ·rw [sumK_full hf, drop_length]; intro x hx; cases hx
 ·rw [s3, s4, e2]
 ·rw [s3, s5, e2]
 ·rw [s3, s6, e2]
 ·rw [s3, s7, e2]
 ·rw [sumK_full hf, Nat.sub_self]; exact Nat.zero_le _
 ·rw [s8]; unfold CS.len; rw [s7]
end
end Go.Proofs.YtejfahjgfedliaaGreat

namespace Go.Proofs.YtejfahjgfedliaaGreat
open Go Go.Sl
inductive LSt where
 | up (l : List Lf) (c : CS) (t : Int)
 | dn (l : List Lf) (c : CS) (q : Nat)
def LSt.isUp : LSt → Bool
 | .up .. => true
 | .dn .. => false
def LSt.c0 : LSt → CS
 | .up _ c _ => c
 | .dn _ c _ => c
def LSt.l0 : LSt → List Lf
 | .up l _ _ => l
 | .dn l _ _ => l
def LSt.ch : LSt → CS
 | .up _ c _ => c
 | .dn _ c _ => CS.new c.dc c.rg c.nd
def LSt.dsk : LSt → DkS
 | .up l _ _ => dk l
 | .dn l _ q => ⟨crashL l q, []⟩
def LSt.ok (s : LSt) (N : Int) : Prop := LI s.l0 s.c0 N
structure LgAt (s : LSt) (cb d w : Nat) (v : Value) (hv : Hp) (seg t : Int) (hd : Hp) : Prop where
 sl : IsSl 43 s.ch.lg v hv
 dk : IsDk s.dsk d hd
 sg : s.isUp = true → seg = lastN s.l0
 tn : ∀ l c t', s = .up l c t' → t = t'
 nv : s.isUp = false → v = .slice none 0 0 ∧ hv = []
def IsLg (s : LSt) (b : Nat) (h : Hp) : Prop := ∃ cb d w v hv seg t hd, h = LgBk b cb s.c0.dc s.c0.rg s.c0.nd d w s.isUp ++ (CsBk cb s.ch v ++ (hv ++ (WBk w d seg t ++ hd))) ∧ LgAt s cb d w v hv seg t hd
def LSt.sync : LSt → LSt
 | .up l c t => .up (lsync l) c.sync t
 | .dn l c q => .dn l c q
def LSt.take (s : LSt) (fr ep ix : Int) (e : Ent) : Bool × LSt := match s with
 | .up l c t => ((takeLS l c fr ep ix e).1, .up (takeLS l c fr ep ix e).2.2 (takeLS l c fr ep ix e).2.1 t)
 | .dn l c q => (false, .dn l c q)
def LSt.put (s : LSt) (key val : ByteArray) (dead : Bool) (deps : V9) (clock cl op : Int) : (Int × Int) × LSt := match s with
 | .up l c t => ((putLS l c key val dead deps clock cl op).1, .up (putLS l c key val dead deps clock cl op).2.2 (putLS l c key val dead deps clock cl op).2.1 t)
 | .dn l c q => ((0, 52), .dn l c q)
def LSt.enter (s : LSt) (x : Cfg) : (Bool × Int) × LSt := match s with
 | .up l c t => ((entLS l c x).1, .up (entLS l c x).2.2 (entLS l c x).2.1 t)
 | .dn l c q => ((false, 52), .dn l c q)
def LSt.heard (s : LSt) (f ep du st : Int) : Bool × LSt := match s with
 | .up l c t => ((c.heard f ep du st).1, .up l (c.heard f ep du st).2 t)
 | .dn l c q => (false, .dn l c q)
def LSt.crash (s : LSt) (keep : Int) : LSt := match s with
 | .up l c _ => .dn l c keep.toNat
 | .dn l c q => .dn l c q
section
variable {s : LSt} {N : Int}
theorem LSt.ok.mono {M : Int} (h : s.ok N) (hm : N ≤ M) : s.ok M := LI.mono h hm
theorem LSt.ok.sync (h : s.ok N) : s.sync.ok N := by
 cases s with
 | up l c t => exact LI.sync h
 | dn l c q => exact h
theorem LSt.ok.take (h : s.ok N) (hN : N < 1099511627776) (fr ep ix : Int) (e : Ent) : (s.take fr ep ix e).2.ok (N + 1) := by
 cases s with
 | up l c t =>
  have h : LI l c N := h
  show LI (takeLS l c fr ep ix e).2.2 (takeLS l c fr ep ix e).2.1 (N + 1)
  unfold takeLS
  split
  ·rename_i hr; exact h.grew (Grew.take c fr ep ix e) hr hN
  ·exact h.mono (by omega)
 | dn l c q => exact LI.mono h (by omega)
theorem LSt.ok.put (h : s.ok N) (hN : N < 1099511627776) (key val : ByteArray) (dead : Bool) (deps : V9) (clock cl op : Int) : (s.put key val dead deps clock cl op).2.ok (N + 1) := by
 cases s with
 | up l c t =>
  have h : LI l c N := h
  show LI (putLS l c key val dead deps clock cl op).2.2 (putLS l c key val dead deps clock cl op).2.1 (N + 1)
  unfold putLS
  split
  ·rename_i hr; exact h.grew (Grew.put c key val dead deps clock cl op) hr hN
  ·exact h.mono (by omega)
 | dn l c q => exact LI.mono h (by omega)
theorem LSt.ok.enter (h : s.ok N) (hN : N + 2 < 1099511627776) (x : Cfg) : (s.enter x).2.ok (N + 2) := by
 cases s with
 | up l c t => exact LI.enter h x hN
 | dn l c q => exact LI.mono h (by omega)
theorem LSt.ok.heard (h : s.ok N) (f ep du st : Int) : (s.heard f ep du st).2.ok N := by
 cases s with
 | up l c t => exact LI.heard h f ep du st
 | dn l c q => exact h
theorem LSt.ok.crash (h : s.ok N) (keep : Int) : (s.crash keep).ok N := by
 cases s with
 | up l c t => exact h
 | dn l c q => exact h
end
def sameId (c c' : CS) : Prop := c'.dc = c.dc ∧ c'.rg = c.rg ∧ c'.nd = c.nd
theorem sameId.refl (c : CS) : sameId c c := ⟨rfl, rfl, rfl⟩
theorem sameId.trans {a b c : CS} (h : sameId a b) (k : sameId b c) : sameId a c := ⟨k.1.trans h.1, k.2.1.trans h.2.1, k.2.2.trans h.2.2⟩
theorem id_settle (c : CS) : sameId c c.settle := ⟨(settle_same c).1, (settle_same c).2.1, (settle_same c).2.2.1⟩
theorem id_sync (c : CS) : sameId c c.sync := id_settle { c with du := c.len }
theorem id_enter (c : CS) (x : Cfg) : sameId c (c.enter x).2 := by
 unfold CS.enter
 split
 ·exact sameId.refl c
 ·split
  ·exact sameId.refl c
  ·refine sameId.trans ?_ (id_settle (c.enter0 x))
   unfold CS.enter0
   split <;> exact ⟨rfl, rfl, rfl⟩
theorem id_heard (c : CS) (f ep du st : Int) : sameId c (c.heard f ep du st).2 := by
 unfold CS.heard
 split
 ·exact sameId.trans ⟨(heard0_same c f _ _).1, (heard0_same c f _ _).2.1, (heard0_same c f _ _).2.2.1⟩ (id_settle _)
 ·exact sameId.refl c
theorem id_again (c : CS) (rs : List Rec) : sameId c (c.again rs) := ⟨(settle_same _).1, (settle_same _).2.1, (settle_same _).2.2.1⟩
theorem id_take (l : List Lf) (c : CS) (fr ep ix : Int) (e : Ent) : sameId c (takeLS l c fr ep ix e).2.1 := by
 unfold takeLS; split
 ·exact (Grew.take c fr ep ix e).nd
 ·exact sameId.refl c
theorem id_put (l : List Lf) (c : CS) (key val : ByteArray) (dead : Bool) (deps : V9) (clock cl op : Int) : sameId c (putLS l c key val dead deps clock cl op).2.1 := by
 unfold putLS; split
 ·exact (Grew.put c key val dead deps clock cl op).nd
 ·exact sameId.refl c
theorem id_ent (l : List Lf) (c : CS) (x : Cfg) : sameId c (entLS l c x).2.1 := by
 unfold entLS
 repeat' split
 all_goals first | exact sameId.refl c | exact id_enter c x
theorem heard_new (dc rg nd f ep du st : Int) : (CS.new dc rg nd).heard f ep du st = (false, CS.new dc rg nd) := by
 have hb : behindO (CS.new dc rg nd).co (CS.new dc rg nd).nd = -1 := by
  show behindO none nd = -1
  unfold behindO
  split
  ·rfl
  ·rfl
 unfold CS.heard
 rw [hb, if_neg (by omega)]
end Go.Proofs.YtejfahjgfedliaaGreat

namespace Go.Proofs.YtejfahjgfedliaaGreat
open Go Go.Sl Go.Proofs.Tryz List
section
variable (b cb : Nat) (dc rg nd : Int) (d w : Nat)
theorem lsyncD_ct : Ct prog 27 [.pointer (some ⟨b, 0, none⟩)] [LgBk b cb dc rg nd d w false] (fun r H' => r = .tuple #[] ∧ H' = [LgBk b cb dc rg nd d w false]) := by
 refine Ct.mk' func27 rfl rfl rfl (fun g R => ?_)
 try simp only [ca]
 simp only [na]
 try refine runS ?_
 exact D.finE [LgBk b cb dc rg nd d w false] _ rfl ⟨rfl, rfl⟩
theorem ltakeD_ct (fr ep ix : Int) (e : Ent) : Ct prog 25 [.pointer (some ⟨b, 0, none⟩), .int .i64 fr, .int .i64 ep, .int .i64 ix, .agg (List.toArray e.enc)] [LgBk b cb dc rg nd d w false] (fun r H' => r = .bool false ∧ H' = [LgBk b cb dc rg nd d w false]) := by
 have hmay := lmayD_ct b cb dc rg nd d w
 refine Ct.mk' func25 rfl rfl rfl (fun g R => ?_)
 try simp only [ca]
 simp only [na]
 repeat' (first | refine runS ?_ | refine bx rfl (fun _ => ?_) | refine WX.callQ rfl hmay rfl ?_ | fail)
 exact D.fin1 [LgBk b cb dc rg nd d w false] _ rfl rfl ⟨rfl, rfl⟩
theorem lputD_ct (key val : ByteArray) (dead : Bool) (deps : V9) (clock cl op : Int) : Ct prog 26 [.pointer (some ⟨b, 0, none⟩), .string key, .string val, .bool dead, .agg (List.toArray deps.enc), .int .i64 clock, .int .i64 cl, .int .i64 op] [LgBk b cb dc rg nd d w false] (fun r H' => r = .tuple #[.int .i64 0, .int .i64 52] ∧ H' = [LgBk b cb dc rg nd d w false]) := by
 have hmay := lmayD_ct b cb dc rg nd d w
 refine Ct.mk' func26 rfl rfl rfl (fun g R => ?_)
 try simp only [ca]
 simp only [na]
 repeat' (first | refine runS ?_ | refine bx rfl (fun _ => ?_) | refine WX.callQ rfl hmay rfl ?_ | fail)
 exact D.fin2 [LgBk b cb dc rg nd d w false] _ rfl rfl rfl ⟨rfl, rfl⟩
theorem lentD_ct (x : Cfg) : Ct prog 39 [.pointer (some ⟨b, 0, none⟩), .agg (List.toArray x.enc)] [LgBk b cb dc rg nd d w false] (fun r H' => r = .tuple #[.bool false, .int .i64 52] ∧ H' = [LgBk b cb dc rg nd d w false]) := by
 refine Ct.mk' func39 rfl rfl rfl (fun g R => ?_)
 try simp only [ca]
 simp only [na]
 repeat' (first | refine runS ?_ | refine bx rfl (fun _ => ?_) | fail)
 exact D.fin2 [LgBk b cb dc rg nd d w false] _ rfl rfl rfl ⟨rfl, rfl⟩
end
theorem LPost.is {b cb : Nat} {dc rg nd : Int} {d w : Nat} {torn : Int} {c : CS} {l : List Lf} {H' : HH} (h : LPost b cb dc rg nd d w torn c l H') (hid : c.dc = dc ∧ c.rg = rg ∧ c.nd = nd) : ∃ H'', H''.flatten = H'.flatten ∧ ∃ h', H'' = [h'] ∧ IsLg (.up l c torn) b h' := by
 obtain ⟨v, hv, hd, rfl, hs, hk⟩ := h
 obtain ⟨rfl, rfl, rfl⟩ := hid
 exact ⟨[LgBk b cb c.dc c.rg c.nd d w true ++ (CsBk cb c v ++ (hv ++ (WBk w d (lastN l) torn ++ hd)))], by simp, _, rfl, cb, d, w, v, hv, lastN l, torn, hd, rfl, ⟨hs, hk, fun _ => rfl, fun l' c' t' e => (by cases e; rfl), fun e => (by cases e)⟩⟩
theorem IsLg.still {s : LSt} {b : Nat} {h : Hp} (hm : IsLg s b h) {f : FuncId} {args : List Value} {u : Value}
  (k : ∀ cb d w, Ct prog f args [LgBk b cb s.c0.dc s.c0.rg s.c0.nd d w s.isUp] (fun r H' => r = u ∧ H' = [LgBk b cb s.c0.dc s.c0.rg s.c0.nd d w s.isUp])) :
  Ct prog f args [h] (fun r H' => r = u ∧ H' = [h]) := by
 obtain ⟨cb, d, w, v, hv, seg, t, hd, rfl, at_⟩ := hm
 exact Ct.ext (k cb d w)
theorem stillD {s : LSt} {b : Nat} {h : Hp} (hm : IsLg s b h) (hu : s.isUp = false) {f : FuncId} {args : List Value} {u : Value}
  (k : ∀ cb d w, Ct prog f args [LgBk b cb s.c0.dc s.c0.rg s.c0.nd d w false] (fun r H' => r = u ∧ H' = [LgBk b cb s.c0.dc s.c0.rg s.c0.nd d w false])) :
  Ct prog f args [h] (fun r H' => r = u ∧ ∃ h', H' = [h'] ∧ IsLg s b h') :=
 (hm.still fun cb d w => by rw [hu]; exact k cb d w).mono fun r H' ⟨h1, h2⟩ => ⟨h1, h, h2, hm⟩
section
variable {s : LSt} {N : Int} (ok : s.ok N) {b : Nat} {h : Hp} (hm : IsLg s b h)
include ok hm
theorem lgsync_ct : Ct prog 27 [.pointer (some ⟨b, 0, none⟩)] [h] (fun r H' => r = .tuple #[] ∧ ∃ h', H' = [h'] ∧ IsLg s.sync b h') := by
 cases s with
 | up l c t =>
  obtain ⟨cb, d, w, v, hv, seg, t', hd, rfl, at_⟩ := hm
  obtain rfl := at_.sg rfl
  obtain rfl := at_.tn l c t rfl
  have okl : LOk l := ok.lg.ok
  have okc : CsOk c := ok.ok
  have hsl : IsSl 43 c.lg v hv := at_.sl
  have hdk : IsDk (dk l) d hd := at_.dk
  exact (lsyncU_ct (w := w) (torn := t') okl b cb c.dc c.rg c.nd hdk okc hsl).pack (by simp [LSt.c0, LSt.ch, LSt.isUp, LSt.l0]) fun r H' ⟨h1, h2⟩ => let ⟨H'', e, p⟩ := h2.is (id_sync c); ⟨H'', e, h1, p⟩
 | dn l c q => exact stillD hm rfl fun cb d w => lsyncD_ct b cb c.dc c.rg c.nd d w
theorem lgtake_ct (fr ep ix : Int) (e : Ent) : Ct prog 25 [.pointer (some ⟨b, 0, none⟩), .int .i64 fr, .int .i64 ep, .int .i64 ix, .agg (List.toArray e.enc)] [h] (fun r H' => r = .bool (s.take fr ep ix e).1 ∧ ∃ h', H' = [h'] ∧ IsLg (s.take fr ep ix e).2 b h') := by
 cases s with
 | up l c t =>
  obtain ⟨cb, d, w, v, hv, seg, t', hd, rfl, at_⟩ := hm
  obtain rfl := at_.sg rfl
  obtain rfl := at_.tn l c t rfl
  have okl : LOk l := ok.lg.ok
  have okc : CsOk c := ok.ok
  have hsl : IsSl 43 c.lg v hv := at_.sl
  have hdk : IsDk (dk l) d hd := at_.dk
  exact (ltakeU_ct (w := w) (torn := t') okl b cb c.dc c.rg c.nd hdk okc hsl fr ep ix e).pack (by simp [LSt.c0, LSt.ch, LSt.isUp, LSt.l0]) fun r H' ⟨h1, h2⟩ => let ⟨H'', e', p⟩ := h2.is (id_take l c fr ep ix e); ⟨H'', e', h1, p⟩
 | dn l c q => exact stillD hm rfl fun cb d w => ltakeD_ct b cb c.dc c.rg c.nd d w fr ep ix e
theorem lgput_ct (key val : ByteArray) (dead : Bool) (deps : V9) (clock cl op : Int) : Ct prog 26 [.pointer (some ⟨b, 0, none⟩), .string key, .string val, .bool dead, .agg (List.toArray deps.enc), .int .i64 clock, .int .i64 cl, .int .i64 op] [h]
  (fun r H' => r = .tuple #[.int .i64 (s.put key val dead deps clock cl op).1.1, .int .i64 (s.put key val dead deps clock cl op).1.2] ∧ ∃ h', H' = [h'] ∧ IsLg (s.put key val dead deps clock cl op).2 b h') := by
 cases s with
 | up l c t =>
  obtain ⟨cb, d, w, v, hv, seg, t', hd, rfl, at_⟩ := hm
  obtain rfl := at_.sg rfl
  obtain rfl := at_.tn l c t rfl
  have okl : LOk l := ok.lg.ok
  have okc : CsOk c := ok.ok
  have hsl : IsSl 43 c.lg v hv := at_.sl
  have hdk : IsDk (dk l) d hd := at_.dk
  exact (lputU_ct (w := w) (torn := t') okl b cb c.dc c.rg c.nd hdk okc hsl key val dead deps clock cl op).pack (by simp [LSt.c0, LSt.ch, LSt.isUp, LSt.l0]) fun r H' ⟨h1, h2⟩ => let ⟨H'', e', p⟩ := h2.is (id_put l c key val dead deps clock cl op); ⟨H'', e', h1, p⟩
 | dn l c q => exact stillD hm rfl fun cb d w => lputD_ct b cb c.dc c.rg c.nd d w key val dead deps clock cl op
theorem lgenter_ct (x : Cfg) : Ct prog 39 [.pointer (some ⟨b, 0, none⟩), .agg (List.toArray x.enc)] [h] (fun r H' => r = .tuple #[.bool (s.enter x).1.1, .int .i64 (s.enter x).1.2] ∧ ∃ h', H' = [h'] ∧ IsLg (s.enter x).2 b h') := by
 cases s with
 | up l c t =>
  obtain ⟨cb, d, w, v, hv, seg, t', hd, rfl, at_⟩ := hm
  obtain rfl := at_.sg rfl
  obtain rfl := at_.tn l c t rfl
  have okl : LOk l := ok.lg.ok
  have okc : CsOk c := ok.ok
  have hsl : IsSl 43 c.lg v hv := at_.sl
  have hdk : IsDk (dk l) d hd := at_.dk
  exact (lentU_ct (w := w) (torn := t') okl b cb c.dc c.rg c.nd hdk okc hsl x).pack (by simp [LSt.c0, LSt.ch, LSt.isUp, LSt.l0]) fun r H' ⟨h1, h2⟩ => let ⟨H'', e', p⟩ := h2.is (id_ent l c x); ⟨H'', e', h1, p⟩
 | dn l c q => exact stillD hm rfl fun cb d w => lentD_ct b cb c.dc c.rg c.nd d w x
theorem lgcrash_ct {keep : Int} (hk1 : -9223372036854775808 ≤ keep) (hk2 : keep ≤ 9223372036854775807) : Ct prog 21 [.pointer (some ⟨b, 0, none⟩), .int .i64 keep] [h] (fun r H' => r = .tuple #[] ∧ ∃ h', H' = [h'] ∧ IsLg (s.crash keep) b h') := by
 cases s with
 | up l c t =>
  obtain ⟨cb, d, w, v, hv, seg, t', hd, rfl, at_⟩ := hm
  have okl : LOk l := ok.lg.ok
  have hdk : IsDk (dk l) d hd := at_.dk
  have h0 := (lcrashU_ct (seg := seg) (torn := t') (w := w) okl b cb c.dc c.rg c.nd hdk c v hk1 hk2).frame (F := [hv]) (post' := fun r H' => r = .tuple #[] ∧ ∃ cb' hd', H' = [LgBk b cb' c.dc c.rg c.nd d w false, CsBk cb' (CS.new c.dc c.rg c.nd) (.slice none 0 0), WBk w d seg t', hd'] ++ [hv] ∧ IsDk ⟨crashL l keep.toNat, []⟩ d hd') fun r H' ⟨h1, cb', hd', h2, h3⟩ => ⟨h1, cb', hd', by rw [h2], h3⟩
  have h1 := h0.perm (pre' := [LgBk b cb c.dc c.rg c.nd d w true, CsBk cb c v, hv, WBk w d seg t', hd]) (List.Perm.flatten (.cons _ (.cons _ (perm_append_comm (l₁ := [WBk w d seg t', hd]) (l₂ := [hv])))))
  refine h1.packP (by simp [LSt.c0, LSt.ch, LSt.isUp]) fun r H' ⟨h1, cb', hd', h2, h3⟩ => ?_
  subst h2
  exact ⟨[LgBk b cb' c.dc c.rg c.nd d w false ++ (CsBk cb' (CS.new c.dc c.rg c.nd) (.slice none 0 0) ++ ([] ++ (WBk w d seg t' ++ hd')))], hv, by simp, h1, _, rfl, cb', d, w, .slice none 0 0, [], seg, t', hd', rfl, ⟨IsSl.nil _, h3, fun e => (by cases e), fun l' c' t'' e => (by cases e), fun _ => ⟨rfl, rfl⟩⟩⟩
 | dn l c q => exact stillD hm rfl fun cb d w => lcrashD_ct b cb c.dc c.rg c.nd d w keep
end
def StartOf (s s' : LSt) : Prop := match s with
 | .up l c t => s' = .up l c t
 | .dn l c q => ∃ l' t', s' = .up l' (c.again (recs l')) t' ∧ LOk l' ∧ (∀ f ∈ l', f.full = f) ∧ sumK l ≤ keptN l q ∧ keptN l q ≤ (recs l).length ∧ recs l' = (recs l).take (keptN l q) ∧ ((looseB l ≤ q → t' = 0) ∧ ∀ K, Fat l K → Fat l' K) ∧ lastN l' ≤ lastN l
theorem StartOf.ok {s s' : LSt} {N : Int} (h : StartOf s s') (ok : s.ok N) : s'.ok N := by
 cases s with
 | up l c t => cases h; exact ok
 | dn l c q =>
  obtain ⟨l', t', rfl, ok', hf, h1, h2, h3, -, h4⟩ := h
  exact (LI.restart ok ok' hf h1 h2 h3 h4).1
theorem outF_le {l : List Lf} (ok : LOk l) : (outF (recs l)).length ≤ 1000000 := by
 have h1 := outF_len (recs l)
 have h2 := recs_count ok.good
 have h3 := ok.used
 omega
theorem LgOk.sub {l l' : List Lf} {m : Nat} (h : LgOk l) (hr : recs l' = (recs l).take m) : ∀ r ∈ outF (recs l'), r.k = 1 ∧ EntR r.e ∨ r.k = 2 ∧ RightC r.c := by
 intro r hm
 obtain ⟨h1, h2⟩ := outF_mem _ r hm
 rw [hr] at h1
 rcases h.re r (mem_of_mem_take h1) with h | h | h
 ·exact .inl h
 ·exact .inr h
 ·exact absurd h h2
theorem lgstart {s : LSt} {N : Int} (ok : s.ok N) : ∃ s', s'.ok N ∧ StartOf s s' ∧ ∀ {b : Nat} {h : Hp}, IsLg s b h → Ct prog 15 [.pointer (some ⟨b, 0, none⟩)] [h] (fun r H' => r = .tuple #[] ∧ ∃ h', H' = [h'] ∧ IsLg s' b h') := by
 cases s with
 | up l c t =>
  refine ⟨.up l c t, ok, rfl, fun {b h} hm => ?_⟩
  exact (hm.still fun cb d w => lstartU_ct b cb c.dc c.rg c.nd d w).mono fun r H' ⟨h1, h2⟩ => ⟨h1, h, h2, hm⟩
 | dn l c q =>
  have lg : LgOk l := ok.lg
  obtain ⟨l', t', ok', ⟨hf, h1, h2, h3, h4, h5⟩, hp, -⟩ := both_openK lg.ok q
  have hst : StartOf (.dn l c q) (.up l' (c.again (recs l')) t') := ⟨l', t', rfl, ok', hf, h1, h2, h3, h4, h5⟩
  refine ⟨_, hst.ok ok, hst, fun {b h} hm => ?_⟩
  obtain ⟨cb, d, w, v, hv, seg, t, hd, rfl, at_⟩ := hm
  obtain ⟨rfl, rfl⟩ := at_.nv rfl
  have hdk : IsDk ⟨crashL l q, []⟩ d hd := at_.dk
  have hid := id_again c (recs l')
  have h0 := (lstartD_ct b cb c.dc c.rg c.nd (w := w) (hp hdk) (outF_le ok') (lg.sub h3)).frame (F := [CsBk cb (CS.new c.dc c.rg c.nd) (.slice none 0 0), WBk w d seg t])
   (post' := fun r H' => r = .tuple #[] ∧ ∃ cb' w' hd' v hv, H' = [LgBk b cb' c.dc c.rg c.nd d w' true, CsBk cb' (c.again (recs l')) v, hv, WBk w' d (lastN l') t', hd'] ++ [CsBk cb (CS.new c.dc c.rg c.nd) (.slice none 0 0), WBk w d seg t] ∧ IsSl 43 (c.again (recs l')).lg v hv ∧ IsDk (dk l') d hd') fun r H' ⟨e1, cb', w', hd', v', hv', e2, e3, e4⟩ => ⟨e1, cb', w', hd', v', hv', by rw [e2]; rfl, e3, e4⟩
  have h1 := h0.perm (pre' := [LgBk b cb c.dc c.rg c.nd d w false, CsBk cb (CS.new c.dc c.rg c.nd) (.slice none 0 0), WBk w d seg t, hd]) (List.Perm.flatten (.cons _ (perm_append_comm (l₁ := [hd]) (l₂ := [CsBk cb (CS.new c.dc c.rg c.nd) (.slice none 0 0), WBk w d seg t]))))
  refine h1.packP (by simp [LSt.c0, LSt.ch, LSt.isUp]) fun r H' ⟨e1, cb', w', hd', v', hv', e2, e3, e4⟩ => ?_
  subst e2
  refine ⟨[LgBk b cb' (c.again (recs l')).dc (c.again (recs l')).rg (c.again (recs l')).nd d w' true ++ (CsBk cb' (c.again (recs l')) v' ++ (hv' ++ (WBk w' d (lastN l') t' ++ hd')))], CsBk cb (CS.new c.dc c.rg c.nd) (.slice none 0 0) ++ WBk w d seg t, ?_, e1, _, rfl, cb', d, w', v', hv', lastN l', t', hd', rfl, ⟨e3, e4, fun _ => rfl, fun l'' c'' t'' e => (by cases e; rfl), fun e => (by cases e)⟩⟩
  rw [hid.1, hid.2.1, hid.2.2]
  simp
end Go.Proofs.YtejfahjgfedliaaGreat

namespace Go.Proofs.YtejfahjgfedliaaGreat
open Go Go.Sl
theorem heard_ch (s : LSt) (f ep du st : Int) : (s.heard f ep du st).2.ch = (s.ch.heard f ep du st).2 ∧ (s.heard f ep du st).2.isUp = s.isUp ∧ (s.heard f ep du st).2.l0 = s.l0 ∧ (s.heard f ep du st).2.dsk = s.dsk ∧ sameId s.c0 (s.heard f ep du st).2.c0 := by
 cases s with
 | up l c t => exact ⟨rfl, rfl, rfl, rfl, id_heard c f ep du st⟩
 | dn l c q => exact ⟨by show CS.new _ _ _ = _; rw [show (LSt.dn l c q).ch = CS.new c.dc c.rg c.nd from rfl, heard_new], rfl, rfl, rfl, sameId.refl c⟩
theorem heard_lg (c : CS) (f ep du st : Int) : (c.heard f ep du st).2.lg = c.lg := by
 unfold CS.heard
 split
 ·exact (settle_same _).2.2.2.2.2.2.1.trans (heard0_same c f _ _).2.2.2.2.2.2.1
 ·rfl
theorem IsLg.heard {s : LSt} {b cb d w : Nat} {v : Value} {hv : Hp} {seg t : Int} {hd : Hp} (at_ : LgAt s cb d w v hv seg t hd) (f ep du st : Int) :
  IsLg (s.heard f ep du st).2 b (LgBk b cb s.c0.dc s.c0.rg s.c0.nd d w s.isUp ++ (CsBk cb (s.ch.heard f ep du st).2 v ++ (hv ++ (WBk w d seg t ++ hd)))) := by
 obtain ⟨h1, h2, h3, h4, h5⟩ := heard_ch s f ep du st
 refine ⟨cb, d, w, v, hv, seg, t, hd, by rw [h1, h2, h5.1, h5.2.1, h5.2.2], ⟨by rw [h1, heard_lg]; exact at_.sl, by rw [h4]; exact at_.dk, by rw [h2, h3]; exact at_.sg, fun l c t' e => ?_, by rw [h2]; exact at_.nv⟩⟩
 cases s with
 | up l0 c0 t0 => cases e; exact at_.tn _ _ _ rfl
 | dn l0 c0 q0 => cases e
theorem LSt.ok.ch {s : LSt} {N : Int} (h : s.ok N) : CsOk s.ch := by
 cases s with
 | up l c t => exact LI.ok h
 | dn l c q => exact CsOk.new _ _ _
end Go.Proofs.YtejfahjgfedliaaGreat

namespace Go.Sl
open Go List
section
variable {g : World} {P : Program} {ops : Array Oper} {Q : Exit → Act → World → Prop} {n : Nat} {rest : List Oper} {L : Fm} {H : HH} {q : Bool}
variable {d : Nat} {ty : TypeId} {pos : String} {af : Array Edge}
theorem bdZ {t e m k : Nat} {ag : Bool} (zs : List Value) [hz : TZ P t zs] [hu : TU P t (.array m e)] [hl : TL P e k ag] (kk : WX q g P ops Q n rest ((d, .agg zs.toArray) :: L) H) (hd : Nat.blt d n = true := by exact rfl) :
  WX q g P ops Q n (⟨some d, .build t #[], ty, pos, af, none⟩ :: rest) L H :=
 WX.val (fun a ha w hw => by
  obtain ⟨i, z', g1, g2, g3⟩ := hz.h
  have hh := hl.s
  cases hi : P.info? e with
  | none => simp [hi] at hh
  | some ie =>
   have hb : P.built t [] = some zs.toArray := by
    simp only [Program.built, g1, g2, hu.h, hi, Instr.fill, g3]
   have := run_build (P := P) w t #[] zs.toArray hb
   simp only [execOp, Sem.run_bind]
   simp only [map_toArray, map_nil, Array.map_empty]
   rw [this]; rfl) hd kk
end
section
variable {P : Program} {md : Region.Mode} {C : World → Prop}
def ancOf (md : Region.Mode) (acc : List Nat) (o : Oper) : Nat := o.after.toList.foldl (fun m e => if Region.binds md e = true then m ||| 2 ^ e.on ||| acc.getD e.on 0 else m) 0
def ancs (md : Region.Mode) (ops : List Oper) : List Nat := ops.foldl (fun acc o => acc ++ [ancOf md acc o]) []
theorem anc_bits {acc : List Nat} {i : Nat} : ∀ (es : List Edge) (m : Nat), (es.foldl (fun m e => if Region.binds md e = true then m ||| 2 ^ e.on ||| acc.getD e.on 0 else m) m).testBit i = true →
  m.testBit i = true ∨ ∃ e ∈ es, Region.binds md e = true ∧ (e.on = i ∨ (acc.getD e.on 0).testBit i = true)
 | [], m, h => .inl h
 | e :: t, m, h => by
  rw [foldl_cons] at h
  rcases anc_bits t _ h with h | ⟨x, hx, h1, h2⟩
  ·by_cases hb : Region.binds md e = true
   ·rw [if_pos hb, Nat.testBit_or, Nat.testBit_or, Bool.or_eq_true, Bool.or_eq_true, Nat.testBit_two_pow] at h
    rcases h with (h | h) | h
    ·exact .inl h
    ·exact .inr ⟨e, mem_cons_self .., hb, .inl (of_decide_eq_true h)⟩
    ·exact .inr ⟨e, mem_cons_self .., hb, .inr h⟩
   ·rw [if_neg hb] at h; exact .inl h
  ·exact .inr ⟨x, mem_cons_of_mem _ hx, h1, h2⟩
theorem anc_good (ops : List Oper) : ∀ (post pre : List Oper) (acc : List Nat), ops = pre ++ post → acc.length = pre.length → (∀ j i, (acc.getD j 0).testBit i = true → ∃ f, waits md ops.toArray f j i = true) →
  ∀ j i, ((post.foldl (fun acc o => acc ++ [ancOf md acc o]) acc).getD j 0).testBit i = true → ∃ f, waits md ops.toArray f j i = true
 | [], pre, acc, _, _, hg => hg
 | o :: t, pre, acc, he, hl, hg => by
  rw [foldl_cons]
  refine anc_good ops t (pre ++ [o]) _ (by rw [he]; simp) (by simp [hl]) fun j i h => ?_
  rcases Nat.lt_trichotomy j acc.length with hj | hj | hj
  ·rw [getD_eq_getElem?_getD, List.getElem?_append_left hj, ← getD_eq_getElem?_getD] at h
   exact hg j i h
  ·subst hj
   rw [getD_eq_getElem?_getD, List.getElem?_concat_length, Option.getD_some] at h
   have ho : ops.toArray[acc.length]? = some o := by rw [he, hl]; simp
   rcases anc_bits _ _ h with h | ⟨e, hx, h1, h2⟩
   ·rw [Nat.zero_testBit] at h; cases h
   ·rcases h2 with h2 | h2
    ·refine ⟨1, ?_⟩
     simp only [waits, ho]
     rw [Array.any_eq_true']
     exact ⟨e, by simpa using hx, by simp [h1, h2]⟩
    ·obtain ⟨f, hf⟩ := hg _ _ h2
     refine ⟨f + 1, ?_⟩
     simp only [waits, ho]
     rw [Array.any_eq_true']
     exact ⟨e, by simpa using hx, by simp [h1, hf]⟩
  ·rw [getD_eq_getElem?_getD, List.getElem?_eq_none (by simp; omega), Option.getD_none, Nat.zero_testBit] at h
   cases h
theorem ancs_good (ops : List Oper) {j i : Nat} (h : ((ancs md ops).getD j 0).testBit i = true) : ∃ f, waits md ops.toArray f j i = true :=
 anc_good ops ops [] [] rfl rfl (fun j i h => by rw [show ([] : List Nat).getD j 0 = 0 by simp, Nat.zero_testBit] at h; cases h) j i h
def mixT (md : Region.Mode) (ops : List Oper) (ms : List Bool) (as_ : List Nat) : Bool :=
 Region.noSelect ops.toArray && decide (ms.length ≤ ops.length) &&
 ((List.range ms.length).all fun j => ms.getD j true || (List.range j).all fun i => ms.getD i true || (as_.getD j 0).testBit i) &&
 ((List.range ops.length).all fun t => decide (t < ms.length) || (List.range ms.length).all fun i => (as_.getD t 0).testBit i) &&
 Region.lexHead md ops.toArray (ops.length - ms.length) ms.length 0 (Array.replicate ops.length false)
theorem mixT_ok {ops : List Oper} {ms : List Bool} (h : mixT md ops ms (ancs md ops) = true) : MixOk md ops.toArray (fun i => ms.getD i true) ms.length ∧ ms.length ≤ ops.toArray.size ∧ Region.lexHead md ops.toArray (ops.toArray.size - ms.length) ms.length 0 (Array.replicate ops.toArray.size false) = true := by
 simp only [mixT, Bool.and_eq_true, decide_eq_true_eq] at h
 obtain ⟨⟨⟨⟨h1, h2⟩, h3⟩, h4⟩, h5⟩ := h
 refine ⟨⟨Region.noSelect_spec h1, fun i j hij hj hi hj' => ?_, fun i t hi ht hts => ?_⟩, by simpa using h2, by simpa using h5⟩
 ·have := all_eq_true.1 h3 j (mem_range.2 hj)
  simp only [hj', Bool.false_or] at this
  have := all_eq_true.1 this i (mem_range.2 hij)
  simp only [hi, Bool.false_or] at this
  exact ancs_good ops this
 ·have := all_eq_true.1 h4 t (mem_range.2 (by simpa using hts))
  simp only [Bool.or_eq_true, decide_eq_true_eq] at this
  rcases this with h | h
  ·omega
  ·exact ancs_good ops (all_eq_true.1 h i (mem_range.2 hi))
theorem wp_region_mixT {id : Nat} {Q : Exit → Act → World → Prop} {a : Act} {w : World} {l : List Oper} (ms : List Bool) (hm : P.follows .mixedOrders = true) (hB : mixT .any l ms (ancs .any l) = true) (hC : C w.drew)
  (h : lexM P l.toArray C Q (l.drop ms.length) (ms.zip l) a w.drew) : (Code.region id l.toArray true).wp P Q a w := by
 obtain ⟨mo, hle, hlex⟩ := mixT_ok hB
 have hle' : ms.length ≤ l.length := by simpa using hle
 have hzl : (ms.zip l).length = ms.length := by rw [length_zip]; omega
 refine wp_region_any hm ?_
 have H := AM_lex (P := P) (C := C) (md := .any) (gg := l.toArray.size - ms.length) (Q := Q) (tail := l.drop ms.length) mo (ms.zip l) 0 (Array.replicate l.toArray.size false) a w.drew
  (fun j x hx => by
   rw [List.getElem?_zip_eq_some] at hx
   obtain ⟨x1, x2⟩ := hx
   simp [x1, x2]) (by rw [Nat.zero_add]; exact hzl) (fun j oj _ hl => by rw [getD_replicate_false] at hl; cases hl) (fun i hi => absurd hi (by omega)) (by rw [hzl]; exact hlex) hC h
 have := AM.any (Q := Q) (gg := l.toArray.size - ms.length) (fun listed a' w' hL => by
  have := wpAny_of_seq (md := .any) (Q' := Q) (l.drop ms.length) ms.length listed a' w' (fun j => by simp [List.getElem?_drop]) (by rw [length_drop]; simpa using hL.1) hL.2
  simpa using this) _ _ _ _ H
 rw [hzl, show ms.length + (l.toArray.size - ms.length) = l.toArray.size by omega] at this
 exact this
theorem W.mixT {g : World} {Q : Exit → Act → World → Prop} {n : Nat} {L : Fm} {H : HH} {id : Nat} {l : List Oper} (ms : List Bool) (Hc : HH) {r : HH} [k : Picks Hc H r] (hm : P.follows .mixedOrders = true) (hB : Go.Sl.mixT .any l ms (ancs .any l) = true) (h : WM g P l.toArray Q n Hc (l.drop ms.length) (ms.zip l) L H) :
  W g P (.region id l.toArray true) Q n L H := .mk fun a w ha hw =>
 have hd : on g H.flatten w.drew := hw.heap rfl ⟨rfl, rfl, rfl, Nat.le_refl _⟩
 wp_region_mixT (C := on g Hc.flatten) ms hm hB ((Hsub.of_picks k).on hd) (h.run a _ ha hd)
end
end Go.Sl

namespace Go.Proofs.YtejfahjgfedliaaGreat
open Go Go.Sl Go.Proofs.Tryz List
theorem selfC {ks : List CK} {xs : List Value} (h : cksB ks xs = true) : cellsEq ks xs xs = some true := by
 obtain ⟨b, e, i⟩ := cellsEq_iff h h
 rw [e, i.2 rfl]
theorem entries_ct {xs : List Ent} {u v : Value} {hu hv : Hp} (hx : Rs xs u hu) (hy : Rs xs v hv) (hl : xs.length ≤ 1000000) :
  Ct prog 28 [u, v] [hu, hv] (fun r H' => r = .bool true ∧ H' = [hu, hv]) := by
 refine Ct.mk' func28 rfl rfl rfl (fun g R => ?_)
 try simp only [ca]
 simp only [na]
 try refine runS ?_
 refine W.loop (α := Nat) (fun i => i ≤ xs.length) (fun i => [(0, u), (1, v), (5, .int .i64 (i : Int))]) (fun _ => [hu, hv, R]) (fun i => xs.length - i) 0 (Nat.zero_le _) (by repeat (first | exact Fsub.nil | refine Fsub.cons rfl ?_)) (Hsub.of_picks inferInstance) ?_
 intro i hi
 by_cases hlt : i < xs.length
 ·obtain ⟨x, hxi⟩ : ∃ x, xs[i]? = some x := ⟨_, List.getElem?_eq_getElem hlt⟩
  have hcmp : cellsEq kEnt x.enc x.enc = some true := selfC rfl
  try refine runS ?_
  refine W.quiet Tryz.mix (by kernel_rfl) ?_
  repeat' (first | refine runS ?_ | refine WX.loadEW rfl hx hxi rfl rfl ?_ | refine WX.loadEW rfl hy hxi rfl rfl ?_ | refine WX.neqA rfl rfl hcmp rfl ?_ | fail)
  exact D.rd (i + 1) (by omega) (by omega)
 ·try refine runS ?_
  exact D.fin1 [hu, hv] _ rfl rfl ⟨rfl, rfl⟩
theorem prefix_ct {xs ys : List Ent} {u v : Value} {hu hv : Hp} (hx : Rs xs u hu) (hy : Rs ys v hv) (hp : xs = ys.take xs.length) (hl : ys.length ≤ 1000000) :
  Ct prog 30 [u, v] [hu, hv] (fun r H' => r = .bool true ∧ H' = [hu, hv]) := by
 have hle : xs.length ≤ ys.length := by
  have := congrArg List.length hp
  rw [length_take] at this; omega
 obtain ⟨vp, vc, rfl⟩ := hy.len
 have hy2 := hy.take (m := xs.length) hle
 rw [← hp] at hy2
 have hen := entries_ct hx hy2 (by omega)
 refine Ct.mk' func30 rfl rfl rfl (fun g R => ?_)
 try simp only [ca]
 simp only [na]
 repeat' (first | refine runS ?_ | refine WX.callQ rfl hen rfl ?_ | fail)
 exact D.fin1 [hu, hv] _ rfl rfl ⟨rfl, rfl⟩
end Go.Proofs.YtejfahjgfedliaaGreat

namespace Go.Proofs.YtejfahjgfedliaaGreat
open Go Go.Sl List
theorem bytes_few {rs : List Rec} (hg : ∀ r ∈ rs, r.code = 0) : (bytes rs).length ≤ 300 * rs.length := by
 induction rs with
 | nil => exact Nat.zero_le _
 | cons r t ih =>
  have h1 := (Rec.good (hg r (mem_cons_self ..))).fr_le
  have h2 := ih fun x hx => hg x (mem_cons_of_mem _ hx)
  rw [bytes_cons, length_append, length_cons]; omega
theorem room_one {n : Int} {rs : List Rec} {k : Nat} (hg : ∀ r ∈ rs, r.code = 0) (hl : rs.length ≤ 10) {m : Int} (m0 : 0 ≤ m) (m1 : m ≤ 2) : roomB [⟨n, rs, k⟩] m = true := by
 have h := bytes_few hg
 unfold roomB
 rw [decide_eq_true_iff, dk_used]
 simp only [map_cons, map_nil, sum_cons, sum_nil, length_cons, length_nil]
 omega
theorem ladd_few {n : Int} {rs : List Rec} {k : Nat} {r : Rec} (hg : ∀ r ∈ rs, r.code = 0) (hl : rs.length ≤ 10) (hc : r.code = 0) : (ladd1 [⟨n, rs, k⟩] r).1 = [⟨n, rs ++ [r], k⟩] := by
 have h := bytes_few hg
 have hle := (Rec.good hc).fr_le
 unfold ladd1
 rw [if_neg (by simpa using hc)]
 simp only [List.getLast?_singleton, dropLast_singleton]
 rw [if_neg (by omega), if_neg (by rw [dk_used]; simp only [map_cons, map_nil, sum_cons, sum_nil]; omega)]
 rfl
def abX0 : Cfg := (firstCh 1).cfg
def abK : ByteArray := ⟨#[107]⟩
def abV : ByteArray := ⟨#[118]⟩
def abW : ByteArray := ⟨#[119]⟩
def abC1 : CS := ⟨0, 0, 0, some (firstCh 1), 1, 0, [], 0, 0, 0, 0, true⟩
def abE1 : Ent := ⟨0, 0, 1, 1, 0, 0, abK, abV, false, V9.z, 0, 1⟩
def abC2 : CS := ⟨0, 0, 0, some (firstCh 1), 1, 0, [abE1], 0, 0, 0, 0, true⟩
def abC3 : CS := ⟨0, 0, 0, some (firstCh 1), 1, 0, [abE1], 1, 1, 0, 0, true⟩
def abE2 : Ent := ⟨0, 0, 2, 2, 0, 0, abK, abW, false, ⟨1, 0, 0, 0, 0, 0, 0, 0, 0⟩, 0, 2⟩
def abC4 : CS := ⟨0, 0, 0, some (firstCh 1), 1, 0, [abE1, abE2], 1, 1, 0, 0, true⟩
theorem ab_enter : (CS.new 0 0 0).enter abX0 = ((true, 0), abC1) := by kernel_rfl
theorem ab_put1 : abC1.putS abK abV false V9.z 0 0 1 = ((1, 0), abC2) := by kernel_rfl
theorem ab_sync : abC2.sync = abC3 := by kernel_rfl
theorem ab_put2 : abC3.putS abK abW false V9.z 0 0 2 = ((2, 0), abC4) := by kernel_rfl
def ab0 : LSt := .up [] (CS.new 0 0 0) 0
def abL (rs : List Rec) (k : Nat) : List Lf := [⟨1, rs, k⟩]
theorem abX_right : RightC abX0 := rightC_of (first_ok (by decide) (by decide))
theorem ab_codeN : (recN abX0 0).code = 0 := code_recN abX_right (Int.le_refl 0) (by decide)
theorem ab_r1 : EntR abE1 := by decide +kernel
theorem ab_r2 : EntR abE2 := by decide +kernel
theorem ab_s1 : ab0.enter abX0 = ((true, 0), .up (abL [cutR, recN abX0 0] 2) abC1 0) := by
 have hr : roomB [] 2 = true := by decide
 have h : entLS [] (CS.new 0 0 0) abX0 = ((true, 0), abC1, abL [cutR, recN abX0 0] 2) := by
  unfold entLS
  rw [if_pos hr, ab_enter, if_pos rfl]
  show ((true, (0 : Int)), abC1, lsync (ladd1 (lcut []).1 (recN abX0 0)).1) = _
  rw [lcut_room LOk.nil hr (by decide) (by decide)]
  show ((true, (0 : Int)), abC1, lsync (ladd1 [⟨1, [cutR], 1⟩] (recN abX0 0)).1) = _
  rw [ladd_cut ab_codeN]
  rfl
 show ((entLS [] (CS.new 0 0 0) abX0).1, LSt.up (entLS [] (CS.new 0 0 0) abX0).2.2 (entLS [] (CS.new 0 0 0) abX0).2.1 0) = _
 rw [h]
theorem ab_g1 : ∀ r ∈ [cutR, recN abX0 0], r.code = 0 := by
 intro r hr
 rcases mem_cons.1 hr with rfl | hr
 ·exact cutR_code
 ·rw [mem_singleton.1 hr]; exact ab_codeN
theorem ab_g2 : ∀ r ∈ [cutR, recN abX0 0, recW abE1], r.code = 0 := by
 intro r hr
 rcases mem_append.1 (show r ∈ [cutR, recN abX0 0] ++ [recW abE1] from hr) with hr | hr
 ·exact ab_g1 r hr
 ·rw [mem_singleton.1 hr]; exact recW_code ab_r1
theorem ab_put {rs : List Rec} {k : Nat} (hg : ∀ r ∈ rs, r.code = 0) (hl : rs.length ≤ 10) {c c' : CS} {key val : ByteArray} {op : Int} {r : Int × Int} {e : Ent} (hp : c.putS key val false V9.z 0 0 op = (r, c')) (he : c'.lg = c.lg ++ [e]) (hr : EntR e) :
  (LSt.up (abL rs k) c 0).put key val false V9.z 0 0 op = (r, .up (abL (rs ++ [recW e]) k) c' 0) := by
 have hrm : roomB (abL rs k) 1 = true := room_one hg hl (by decide) (by decide)
 have h : putLS (abL rs k) c key val false V9.z 0 0 op = (r, c', abL (rs ++ [recW e]) k) := by
  unfold putLS
  rw [if_pos hrm, hp]
  simp only []
  rw [grown_push _ c c' e he]
  unfold abL
  rw [ladd_few hg hl (recW_code hr)]
 show ((putLS (abL rs k) c key val false V9.z 0 0 op).1, LSt.up (putLS (abL rs k) c key val false V9.z 0 0 op).2.2 (putLS (abL rs k) c key val false V9.z 0 0 op).2.1 0) = _
 rw [h]
theorem ab_s2 : (ab0.enter abX0).2.put abK abV false V9.z 0 0 1 = ((1, 0), .up (abL [cutR, recN abX0 0, recW abE1] 2) abC2 0) := by
 rw [ab_s1]; exact ab_put ab_g1 (by decide) ab_put1 rfl ab_r1
theorem ab_s3 : ((ab0.enter abX0).2.put abK abV false V9.z 0 0 1).2.sync = .up (abL [cutR, recN abX0 0, recW abE1] 3) abC3 0 := by
 rw [ab_s2]
 show LSt.up (lsync (abL [cutR, recN abX0 0, recW abE1] 2)) abC2.sync 0 = _
 rw [ab_sync]; rfl
theorem ab_s4 : (((ab0.enter abX0).2.put abK abV false V9.z 0 0 1).2.sync.put abK abW false V9.z 0 0 2).2 = .up (abL [cutR, recN abX0 0, recW abE1, recW abE2] 3) abC4 0 := by
 rw [ab_s3, ab_put ab_g2 (by decide) ab_put2 rfl ab_r2]; rfl
theorem ab_fin {s : LSt} {N : Int} (ok : (LSt.up (abL [cutR, recN abX0 0, recW abE1, recW abE2] 3) abC4 0).ok N) (h : StartOf ((LSt.up (abL [cutR, recN abX0 0, recW abE1, recW abE2] 3) abC4 0).crash 0) s) :
  s.isUp = true ∧ s.ch.len = 1 ∧ s.ch.st = 1 ∧ (cfO s.ch.co).ep = 1 := by
 obtain ⟨l', t', rfl, ok', hf, h1, h2, h3, -, h4⟩ := h
 have hk : keptN (abL [cutR, recN abX0 0, recW abE1, recW abE2] 3) (0 : Int).toNat = 3 := by
  have hle := (Rec.good (recW_code ab_r2)).fr_le
  show (if (bytes [recW abE2]).length ≤ 0 then _ else 3 + frN [recW abE2] 0) = 3
  rw [if_neg (by rw [bytes_cons, length_append]; omega)]
  show 3 + (if 0 < (recW abE2).fr.length then 0 else _) = 3
  rw [if_pos (by omega)]
 rw [hk] at h1 h2 h3
 obtain ⟨-, h5, -⟩ := LI.restart ok ok' hf h1 h2 h3 h4
 refine ⟨rfl, ?_⟩
 show (abC4.again (recs l')).len = 1 ∧ (abC4.again (recs l')).st = 1 ∧ (cfO (abC4.again (recs l')).co).ep = 1
 rw [show abC4.again (recs l') = _ from h5]
 exact ⟨by kernel_rfl, by kernel_rfl, by kernel_rfl⟩
end Go.Proofs.YtejfahjgfedliaaGreat

namespace Go.Proofs.YtejfahjgfedliaaGreat
open Go Go.Sl Go.Proofs.Tryz
theorem lgnew_ct (dc rg nd : Int) : Ct prog 12 [.int .i64 dc, .int .i64 rg, .int .i64 nd] [] (fun r H' => ∃ b h, r = .pointer (some ⟨b, 0, none⟩) ∧ H' = [h] ∧ IsLg (.up [] (CS.new dc rg nd) 0) b h) :=
 (lnew_ct dc rg nd).pack rfl fun r H' ⟨b, cb, d, w, hd, h1, h2, h3⟩ => by
  subst h2
  exact ⟨[LgBk b cb dc rg nd d w true ++ (CsBk cb (CS.new dc rg nd) (.slice none 0 0) ++ ([] ++ (WBk w d (lastN []) 0 ++ hd)))], by simp, b, _, h1, rfl, cb, d, w, .slice none 0 0, [], lastN [], 0, hd, rfl, ⟨IsSl.nil _, h3, fun _ => rfl, fun l' c' t' e => (by cases e; rfl), fun e => (by cases e)⟩⟩
theorem lgup_ct {s : LSt} {b : Nat} {h : Hp} (hm : IsLg s b h) : Ct prog 22 [.pointer (some ⟨b, 0, none⟩)] [h] (fun r H' => r = .bool s.isUp ∧ H' = [h]) := hm.still fun cb d w => lup_ct b cb s.c0.dc s.c0.rg s.c0.nd d w s.isUp
set_option maxRecDepth 10000 in
set_option maxHeartbeats 2000000 in
theorem lable_ct : Ct prog 10 [] [] (fun r H' => r = .bool true ∧ H' = []) := by
 have k0 : ab0.ok 0 := LI.nil 0 0 0
 have k1 := k0.enter (by decide) abX0
 have k2 := k1.put (by decide) abK abV false V9.z 0 0 1
 have k3 := k2.sync
 have k4 := k3.put (by decide) abK abW false V9.z 0 0 2
 have k5 := k4.crash 0
 obtain ⟨s6, k6, hst, g6⟩ := lgstart k5
 rw [ab_s4] at hst k4
 obtain ⟨f1, f2, f3, f4⟩ := ab_fin k4 hst
 have hfi := first_ct (n := 1) (by decide) (by decide)
 obtain ⟨s1, e1⟩ : ∃ s, (ab0.enter abX0).2 = s := ⟨_, rfl⟩
 obtain ⟨s2, e2⟩ : ∃ s, (s1.put abK abV false V9.z 0 0 1).2 = s := ⟨_, rfl⟩
 obtain ⟨s4, e4⟩ : ∃ s, (s2.sync.put abK abW false V9.z 0 0 2).2 = s := ⟨_, rfl⟩
 rw [e1] at k1 k2 k3 k5 g6
 rw [e2] at k2 k3 k5 g6
 rw [e4] at k5 g6
 refine Ct.mk' func10 rfl rfl rfl (fun g R => ?_)
 try simp only [ca]
 simp only [na]
 try refine runS ?_
 refine WX.call rfl (lgnew_ct 0 0 0) rfl ?_
 rintro _ _ ⟨b, h0, rfl, rfl, m0⟩
 have m0 : IsLg ab0 b h0 := m0
 obtain ⟨cb, d, w, v, hv, seg, t, hk, rfl, a0⟩ := id m0
 simp only [ca, na]
 refine WX.perm (H' := [LgBk b cb ab0.c0.dc ab0.c0.rg ab0.c0.nd d w ab0.isUp, CsBk cb ab0.ch v, hv, WBk w d seg t, hk, R]) (List.Perm.of_eq (by simp)) ?_
 try refine runS ?_
 refine WX.call rfl hfi rfl ?_
 rintro _ _ ⟨rfl, rfl⟩
 simp only [ca, na]
 repeat' (first | refine runS ?_ | refine al (fun _ => ?_) | refine sGW Cfg.z.enc abX0.enc rfl rfl ?_ | fail)
 rename_i b2
 have q1 := Ct.pack (pre' := [LgBk b cb ab0.c0.dc ab0.c0.rg ab0.c0.nd d w ab0.isUp, CsBk cb ab0.ch v, hv, WBk w d seg t, hk]) (lgenter_ct k0 m0 abX0) (by simp) (fun v H' p => ⟨H', rfl, p⟩)
 repeat' (first | refine lAN (t := 34) abX0.enc abX0.enc rfl ?_ | fail)
 refine WX.call rfl q1 rfl ?_
 rintro _ _ ⟨rfl, h1, rfl, m1⟩
 rw [e1] at m1
 simp only [ca, na]
 repeat' (first | refine runS ?_ | refine bdZ V9.z.enc ?_ | fail)
 refine WX.call rfl (lgput_ct k1 m1 abK abV false V9.z 0 0 1) rfl ?_
 rintro _ _ ⟨rfl, h2, rfl, m2⟩
 rw [e2] at m2
 simp only [ca, na]
 try refine runS ?_
 refine WX.call rfl (lgsync_ct k2 m2) rfl ?_
 rintro _ _ ⟨rfl, h3, rfl, m3⟩
 simp only [ca, na]
 repeat' (first | refine runS ?_ | refine bdZ V9.z.enc ?_ | fail)
 refine WX.call rfl (lgput_ct k3 m3 abK abW false V9.z 0 0 2) rfl ?_
 rintro _ _ ⟨rfl, h4, rfl, m4⟩
 rw [e4] at m4
 simp only [ca, na]
 try refine runS ?_
 refine WX.call rfl (lgcrash_ct (s := s4) (N := 0 + 2 + 1 + 1) (by rw [← e4]; exact (k3.put (by decide) abK abW false V9.z 0 0 2)) m4 (keep := 0) (by decide) (by decide)) rfl ?_
 rintro _ _ ⟨rfl, h5, rfl, m5⟩
 have q5 := lgup_ct m5
 have hu5 : (s4.crash 0).isUp = false := by cases s4 <;> rfl
 rw [hu5] at q5
 simp only [ca, na]
 repeat' (first | refine runS ?_ | refine WX.callQ rfl q5 rfl ?_ | fail)
 refine WX.call rfl (g6 m5) rfl ?_
 rintro _ _ ⟨rfl, h6, rfl, m6⟩
 have q6 := lgup_ct m6
 rw [f1] at q6
 simp only [ca, na]
 repeat' (first | refine runS ?_ | refine WX.callQ rfl q6 rfl ?_ | fail)
 obtain ⟨cb6, d6, w6, v6, hv6, seg6, t6, hk6, rfl, a6⟩ := id m6
 have hc6 := clen_ct s6.ch cb6 a6.sl.rs
 have hs6 := cstab_ct s6.ch cb6 v6
 have he6 := cepoch_ct s6.ch cb6 v6
 rw [f2] at hc6
 rw [f3] at hs6
 rw [f4] at he6
 refine WX.perm (H' := [LgBk b cb6 s6.c0.dc s6.c0.rg s6.c0.nd d6 w6 s6.isUp, CsBk cb6 s6.ch v6, hv6, WBk w6 d6 seg6 t6, hk6, CfBk b2 abX0, R]) (List.Perm.of_eq (by simp)) ?_
 repeat' (first | refine runS ?_ | refine WX.callQ rfl hc6 rfl ?_ | refine WX.callQ rfl hs6 rfl ?_ | refine WX.callQ rfl he6 rfl ?_ | fail)
 exact D.fin1 [] _ rfl rfl ⟨by simp, rfl⟩
end Go.Proofs.YtejfahjgfedliaaGreat

namespace Go.Proofs.YtejfahjgfedliaaGreat
open Go Go.Sl
theorem StartOf.up {s s' : LSt} (h : StartOf s s') : ∃ l c t, s' = .up l c t := by
 cases s with
 | up l c t => exact ⟨l, c, t, h⟩
 | dn l c q => obtain ⟨l', t', h1, -⟩ := h; exact ⟨_, _, _, h1⟩
end Go.Proofs.YtejfahjgfedliaaGreat

namespace Go.Proofs.YtejfahjgfedliaaGreat
open Go Go.Sl List
inductive Nx (c c' : Ch) : Prop
 | drop (n : Int) (h : c'.all = c.all.filter fun m => m.nd != n) (h2 : c'.ms.Sublist c.ms)
 | add (m : Mem) (h : c'.all = c.all ++ [m]) (hm : m.sn = c.ep + 1) (h2 : c'.ms = c.ms) (hn : ∀ x ∈ c.all, x.nd ≠ m.nd)
 | grow (m : Mem) (h : c'.all = c.all) (hl : c.ln = some m) (h2 : c'.ms = c.ms ++ [m])
theorem filter_ne {l : List Mem} {n : Int} (h : ∀ m ∈ l, m.nd ≠ n) : (l.filter fun m => m.nd != n) = l := by
 rw [filter_eq_self]
 intro m hm
 simpa using h m hm
theorem nx_drop {c c' : Ch} (ok : ChOk c) {n : Int} (h : dropL c n = some c') : Nx c c' ∧ c'.ep = c.ep + 1 := by
 unfold dropL at h
 split at h
 ·cases h
 split at h
 ·rename_i h2
  cases h
  obtain ⟨m, hm⟩ : ∃ m, c.ln = some m := by cases hl : c.ln with | none => rw [hl] at h2; cases h2 | some m => exact ⟨m, rfl⟩
  rw [hm] at h2
  have hmn : m.nd = n := by simpa using h2
  have hu := ok.up
  have ha : c.all = c.ms ++ [m] := by unfold Ch.all; rw [hm]; rfl
  rw [ha, map_append, pairwise_append] at hu
  refine ⟨.drop n ?_ (List.Sublist.refl _), rfl⟩
  show c.ms ++ [] = _
  rw [ha, filter_append, filter_ne fun x hx => by
   have := hu.2.2 x.nd (mem_map.2 ⟨x, hx, rfl⟩) m.nd (by simp)
   rw [hmn] at this; exact this]
  simp [hmn]
 split at h
 ·cases h
 ·rename_i h2 h3
  cases h
  simp only [not_or, Bool.not_eq_false] at h3
  obtain ⟨x, hx, hxn⟩ := Ch.has_iff.1 h3.1
  refine ⟨.drop n ?_ filter_sublist, rfl⟩
  show (c.ms.filter _) ++ c.ln.toList = _
  unfold Ch.all
  rw [filter_append]
  congr 1
  cases hl : c.ln with
  | none => rfl
  | some m =>
   have hu := ok.up
   have ha : c.all = c.ms ++ [m] := by unfold Ch.all; rw [hl]; rfl
   rw [ha, map_append, pairwise_append] at hu
   have := hu.2.2 x.nd (mem_map.2 ⟨x, hx, rfl⟩) m.nd (by simp)
   symm
   refine filter_ne fun y hy => ?_
   rw [show y = m by simpa using hy]
   intro e; exact this (by rw [e, hxn])
theorem nx_add {c c' : Ch} {n : Int} (h : addL c n = some c') : Nx c c' ∧ c'.ep = c.ep + 1 := by
 unfold addL at h
 split at h
 ·cases h
 ·rename_i hn
  simp only [not_or] at hn
  obtain ⟨-, n2, -, -, n5⟩ := hn
  cases h
  have hl : c.ln = none := by cases hl : c.ln with | none => rfl | some m => simp [hl] at n2
  have ha : c.all = c.ms := by simp [Ch.all, hl]
  refine ⟨.add ⟨n, c.ep + 1⟩ ?_ rfl rfl fun x hx e => n5 (Ch.has_iff.2 ⟨x, by rw [← ha]; exact hx, e⟩), rfl⟩
  rw [ha]; rfl
theorem nx_grow {c c' : Ch} (h : growL c = some c') : Nx c c' ∧ c'.ep = c.ep + 1 := by
 unfold growL at h
 split at h
 ·cases h
 ·cases hl : c.ln with
  | none => rw [hl] at h; cases h
  | some m =>
   rw [hl] at h
   cases h
   refine ⟨.grow m ?_ hl rfl, rfl⟩
   simp [Ch.all, hl]
theorem Nx.mem_back {c c' : Ch} (h : Nx c c') {y : Mem} (hy : y ∈ c'.all) (hs : y.sn ≤ c.ep) : y ∈ c.all := by
 cases h with
 | drop n h => rw [h] at hy; exact (mem_filter.1 hy).1
 | add m h hm =>
  rw [h] at hy
  rcases mem_append.1 hy with hy | hy
  ·exact hy
  ·rw [mem_singleton.1 hy] at hs; omega
 | grow m h => rw [h] at hy; exact hy
theorem pair_snoc {x y m : Mem} {l : List Mem} (h : [x, y].Sublist (l ++ [m])) (hy : y ≠ m) : [x, y].Sublist l := by
 rw [sublist_append_iff] at h
 obtain ⟨a, b, e, h1, h2⟩ := h
 rcases eq_nil_or_concat b with rfl | ⟨b', z, rfl⟩
 ·rw [append_nil] at e; rw [e]; exact h1
 ·rw [concat_eq_append] at e h2
  have hz : z ∈ [m] := h2.subset (by simp)
  have : [x, y].getLast? = some z := by rw [e, ← append_assoc, List.getLast?_concat]
  have hyz : y = z := by simpa using this
  exact absurd (hyz.trans (by simpa using hz)) hy
theorem Nx.back {c c' : Ch} (h : Nx c c') {x y : Mem} (hy : [x, y].Sublist c'.all) (hs : y.sn ≤ c.ep) : [x, y].Sublist c.all := by
 cases h with
 | drop n h => rw [h] at hy; exact hy.trans filter_sublist
 | add m h hm => rw [h] at hy; exact pair_snoc hy fun e => by rw [e] at hs; omega
 | grow m h => rw [h] at hy; exact hy
theorem pw_ne {α : Type} {f : α → Int} {l : List α} (h : (l.map f).Pairwise (· ≠ ·)) {i j : Nat} {a b : α} (ha : l[i]? = some a) (hb : l[j]? = some b) (e : f a = f b) : i = j := by
 rw [pairwise_iff_getElem] at h
 obtain ⟨hi, rfl⟩ := List.getElem?_eq_some_iff.1 ha
 obtain ⟨hj, rfl⟩ := List.getElem?_eq_some_iff.1 hb
 rcases Nat.lt_trichotomy i j with h1 | h1 | h1
 ·have := h i j (by simpa using hi) (by simpa using hj) h1
  simp only [getElem_map] at this
  exact absurd e this
 ·exact h1
 ·have := h j i (by simpa using hj) (by simpa using hi) h1
  simp only [getElem_map] at this
  exact absurd e.symm this
structure Chs (cs : List Ch) : Prop where
 ok : ∀ c ∈ cs, ChOk c
 un : ∀ c ∈ cs, ∀ c' ∈ cs, c.ep = c'.ep → c = c'
 nx : ∀ c' ∈ cs, 1 < c'.ep → ∃ c ∈ cs, c.ep + 1 = c'.ep ∧ Nx c c'
section
variable {cs : List Ch} (hc : Chs cs)
include hc
theorem Chs.back {c c' : Ch} (h : c ∈ cs) (h' : c' ∈ cs) (he : c.ep ≤ c'.ep) {x y : Mem} (hy : [x, y].Sublist c'.all) (hs : y.sn ≤ c.ep) : [x, y].Sublist c.all := by
 obtain ⟨n, hn⟩ : ∃ n : Nat, c'.ep = c.ep + (n : Int) := ⟨(c'.ep - c.ep).toNat, by omega⟩
 induction n generalizing c' with
 | zero => rw [hc.un c h c' h' (by omega)]; exact hy
 | succ n ih =>
  have h1 := (hc.ok c h).e1
  obtain ⟨d, hd, he', hx⟩ := hc.nx c' h' (by omega)
  exact ih hd (by omega) (hx.back hy (by omega)) (by omega)
theorem Chs.mem_back {c c' : Ch} (h : c ∈ cs) (h' : c' ∈ cs) (he : c.ep ≤ c'.ep) {y : Mem} (hy : y ∈ c'.all) (hs : y.sn ≤ c.ep) : y ∈ c.all := by
 obtain ⟨n, hn⟩ : ∃ n : Nat, c'.ep = c.ep + (n : Int) := ⟨(c'.ep - c.ep).toNat, by omega⟩
 induction n generalizing c' with
 | zero => rw [hc.un c h c' h' (by omega)]; exact hy
 | succ n ih =>
  have h1 := (hc.ok c h).e1
  obtain ⟨d, hd, he', hx⟩ := hc.nx c' h' (by omega)
  exact ih hd (by omega) (hx.mem_back hy (by omega)) (by omega)
theorem Chs.one {c : Ch} (h : c ∈ cs) {x y : Mem} (hx : x ∈ c.all) (hy : y ∈ c.all) (e : x.nd = y.nd) : x = y := by
 obtain ⟨i, hi⟩ := mem_iff_getElem?.1 hx
 obtain ⟨j, hj⟩ := mem_iff_getElem?.1 hy
 have := pw_ne (hc.ok c h).up hi hj e
 subst this
 rw [hi] at hj; cases hj; rfl
end
def Adj (l : List Mem) (x y : Mem) : Prop := ∃ a b, l = a ++ x :: y :: b
theorem Adj.sub {l : List Mem} {x y : Mem} (h : Adj l x y) : [x, y].Sublist l := by
 obtain ⟨a, b, rfl⟩ := h
 exact List.Sublist.trans (by simp) (sublist_append_right a _)
theorem ahead_adj {l : List Mem} (hn : l.Nodup) {k p j : Mem} (h : Adj l p j) (hk : [k, j].Sublist l) : k = p ∨ [k, p].Sublist l := by
 obtain ⟨a, b, rfl⟩ := h
 have hj : j ∉ a ++ [p] := by
  intro hm
  rw [show a ++ p :: j :: b = (a ++ [p]) ++ (j :: b) by simp, nodup_append] at hn
  exact hn.2.2 j hm j (by simp) rfl
 have hjb : j ∉ b := by
  rw [show a ++ p :: j :: b = (a ++ [p]) ++ (j :: b) by simp, nodup_append] at hn
  exact (nodup_cons.1 hn.2.1).1
 rw [show a ++ p :: j :: b = (a ++ [p]) ++ (j :: b) by simp, sublist_append_iff] at hk
 obtain ⟨x, y, e, h1, h2⟩ := hk
 have hkm : k ∈ a ++ [p] := by
  match x, e with
  | [], e =>
   rw [nil_append] at e
   rw [← e] at h2
   cases h2 with
   | cons _ h => exact absurd (h.subset (by simp)) hjb
   | cons_cons _ h => exact absurd (h.subset (by simp)) hjb
  | [u], e => simp at e; exact h1.subset (by simp [e.1])
  | u :: v :: w, e => simp at e; exact h1.subset (by simp [e.1])
 rcases mem_append.1 hkm with hk | hk
 ·right
  have : [k, p].Sublist (a ++ [p]) := by
   rw [show [k, p] = [k] ++ [p] from rfl]
   exact (singleton_sublist.2 hk).append (List.Sublist.refl _)
  exact this.trans (by rw [show a ++ p :: j :: b = (a ++ [p]) ++ (j :: b) by simp]; exact sublist_append_left _ _)
 ·left; simpa using hk
theorem ChOk.nodup {c : Ch} (h : ChOk c) : c.all.Nodup := by
 have := h.up
 rw [pairwise_map] at this
 exact this.imp fun h e => h (by rw [e])
inductive Inh (cs : List Ch) : Mem → Mem → Int → Int → Prop
 | here {k j : Mem} {c : Ch} (hc : c ∈ cs) (h : [k, j].Sublist c.all) : Inh cs k j c.ep 0
 | step {k z j : Mem} {c c' : Ch} {e f : Int} (hc : c ∈ cs) (hc' : c' ∈ cs) (he : c.ep + 1 = c'.ep) (hl : c.ln = some k) (hm : c'.ms = c.ms ++ [k]) (hz : c.ms.getLast? = some z) (h : Inh cs z j e f) (hle : e + 1 ≤ c.ep) (hf : f + 1 ≤ c.ep) : Inh cs k j e c.ep
theorem Inh.pred {cs : List Ch} (hc : Chs cs) (Left : Mem → Int → Prop)
  (hG : ∀ {k z : Mem} {c c' : Ch}, c ∈ cs → c' ∈ cs → c.ep + 1 = c'.ep → c.ln = some k → c'.ms = c.ms ++ [k] → c.ms.getLast? = some z → ∀ e, e + 1 ≤ c.ep → Left z e)
  {k j : Mem} {e f : Int} (h : Inh cs k j e f) : ∀ {c : Ch} {p : Mem}, c ∈ cs → c.ep ≤ e → j.sn ≤ c.ep → Adj c.all p j → p = k ∨ (∃ f', f' ≤ f ∧ Inh cs k p c.ep f') ∨ Left p c.ep := by
 induction h with
 | @here k j c' hc' hs =>
  intro c p hcm he hj ha
  have h1 := hc.back hcm hc' he hs hj
  rcases ahead_adj (hc.ok c hcm).nodup ha h1 with h | h
  ·exact .inl h.symm
  ·exact .inr (.inl ⟨0, Int.le_refl _, .here hcm h⟩)
 | @step k z j c1 c2 e f h1 h2 he hl hm hz hi hle hff ih =>
  intro c p hcm hce hj ha
  rcases ih hcm hce hj ha with h | ⟨f', hf, h⟩ | h
  ·subst h
   exact .inr (.inr (hG h1 h2 he hl hm hz c.ep (by omega)))
  ·exact .inr (.inl ⟨c1.ep, Int.le_refl _, .step h1 h2 he hl hm hz h (by omega) (by omega)⟩)
  ·exact .inr (.inr h)
theorem Inh.not_head {cs : List Ch} (hc : Chs cs) {k j : Mem} {e f : Int} (h : Inh cs k j e f) : ∀ {c : Ch}, c ∈ cs → c.ep ≤ e → j.sn ≤ c.ep → c.all.head? ≠ some j := by
 induction h with
 | @here k j c' hc' hs =>
  intro c hcm he hj hh
  have h1 := hc.back hcm hc' he hs hj
  have hn := (hc.ok c hcm).nodup
  cases ha : c.all with
  | nil => rw [ha] at hh; cases hh
  | cons x t =>
   rw [ha] at hh h1 hn
   have hx : x = j := by simpa using hh
   subst hx
   rw [nodup_cons] at hn
   cases h1 with
   | cons _ h => exact hn.1 (h.subset (by simp))
   | cons_cons _ h => exact hn.1 (h.subset (by simp))
 | step _ _ _ _ _ _ _ hle _ ih => intro c hcm hce hj; exact ih hcm hce hj
theorem tk_le {α : Type} {l : List α} {a b : Nat} (h : a ≤ b) : l.take a <+: l.take b := by
 rw [show l.take a = (l.take b).take a by rw [take_take, Nat.min_eq_left h]]
 exact take_prefix _ _
theorem tk_app {α : Type} {l r : List α} {a : Nat} (h : a ≤ l.length) : (l ++ r).take a = l.take a := take_append_of_le_length h
theorem pre_tk {α : Type} {l r : List α} {a : Nat} (h : l <+: r) (ha : a ≤ l.length) : r.take a = l.take a := by
 obtain ⟨t, rfl⟩ := h
 exact tk_app ha
def CS.ep (c : CS) : Int := (cfO c.co).ep
def CS.me (c : CS) : Mem := ⟨c.nd, c.sn⟩
def dur (c : CS) (m : Int) : List Ent := if m < c.ep then c.lg.take c.bs.toNat else c.lg.take c.du.toNat
theorem dur_mono {c : CS} (ok : CsOk c) {m m' : Int} (h : m ≤ m') : dur c m <+: dur c m' := by
 have h1 := ok.bs
 unfold dur
 by_cases h2 : m' < c.ep
 ·rw [if_pos (by omega), if_pos h2]; exact prefix_rfl
 ·rw [if_neg h2]
  split
  ·exact tk_le (by omega)
  ·exact prefix_rfl
theorem dur_lg (c : CS) (m : Int) : dur c m <+: c.lg := by unfold dur; split <;> exact take_prefix _ _
abbrev Tn := Mem → Option CS
def hold (tn : Tn) (k : Mem) (m : Int) (X : List Ent) : Prop := match tn k with
 | none => X = []
 | some c => X <+: dur c m
def OkTn (tn : Tn) : Prop := ∀ m c, tn m = some c → CsOk c
theorem hold.mono {tn : Tn} (ok : OkTn tn) {k : Mem} {m m' : Int} {X : List Ent} (h : hold tn k m X) (hm : m ≤ m') : hold tn k m' X := by
 unfold hold at h ⊢
 cases hk : tn k with
 | none => rw [hk] at h; exact h
 | some c => rw [hk] at h; exact List.IsPrefix.trans h (dur_mono (ok k c hk) hm)
theorem hold.sub {tn : Tn} {k : Mem} {m : Int} {X Y : List Ent} (h : hold tn k m X) (hm : Y <+: X) : hold tn k m Y := by
 unfold hold at h ⊢
 cases hk : tn k with
 | none => rw [hk] at h; simp only [] at h; subst h; exact prefix_nil.1 hm
 | some c => rw [hk] at h; exact List.IsPrefix.trans hm h
theorem hold.nil {tn : Tn} {k : Mem} {m : Int} : hold tn k m [] := by
 unfold hold; split
 ·rfl
 ·exact nil_prefix
theorem hold.comp {tn : Tn} (ok : OkTn tn) {k : Mem} {m m' : Int} {X Y : List Ent} (h : hold tn k m X) (h' : hold tn k m' Y) : X <+: Y ∨ Y <+: X := by
 unfold hold at h h'
 cases hk : tn k with
 | none => rw [hk] at h; simp only [] at h; subst h; exact .inl nil_prefix
 | some c =>
  rw [hk] at h h'
  simp only [] at h h'
  exact prefix_or_prefix_of_prefix (h.trans (dur_lg c m)) (h'.trans (dur_lg c m'))
theorem hold.is {tn : Tn} {k : Mem} {m : Int} {X : List Ent} {c : CS} (hk : tn k = some c) : hold tn k m X ↔ X <+: dur c m := by unfold hold; rw [hk]
def Rel (c c' : CS) : Prop := ∀ m, dur c m <+: dur c' m
theorem Rel.of {c c' : CS} (ok : CsOk c) (ok' : CsOk c') (he : c.ep ≤ c'.ep) (hb : c.ep = c'.ep → c.lg.take c.bs.toNat <+: c'.lg.take c'.bs.toNat) (hd : c.lg.take c.du.toNat <+: c'.lg.take c'.du.toNat)
  (hx : c.ep < c'.ep → c.lg.take c.du.toNat <+: c'.lg.take c'.bs.toNat) : Rel c c' := by
 intro m
 have h1 := ok.bs
 have h2 := ok'.bs
 have h3 : c.lg.take c.bs.toNat <+: c.lg.take c.du.toNat := tk_le (by omega)
 unfold dur
 by_cases a : m < c.ep
 ·rw [if_pos a, if_pos (by omega)]
  by_cases e : c.ep = c'.ep
  ·exact hb e
  ·exact h3.trans (hx (by omega))
 ·rw [if_neg a]
  split
  ·exact hx (by omega)
  ·exact hd
theorem Rel.same {c c' : CS} (h1 : c'.ep = c.ep) (h2 : c'.lg = c.lg) (h3 : c'.bs = c.bs) (h4 : c'.du = c.du) : Rel c c' := by
 intro m; unfold dur; rw [h1, h2, h3, h4]; exact prefix_rfl
def upd (tn : Tn) (m : Mem) (c : CS) : Tn := fun k => if k = m then some c else tn k
theorem upd_self (tn : Tn) (m : Mem) (c : CS) : upd tn m c m = some c := if_pos rfl
theorem upd_ne (tn : Tn) {m k : Mem} (c : CS) (h : k ≠ m) : upd tn m c k = tn k := if_neg h
theorem hold.up {tn : Tn} {m : Mem} {c' : CS} (r : ∀ c, tn m = some c → Rel c c') {k : Mem} {E : Int} {X : List Ent} (h : hold tn k E X) : hold (upd tn m c') k E X := by
 by_cases e : k = m
 ·subst e
  rw [hold.is (upd_self tn k c')]
  cases hk : tn k with
  | none => unfold hold at h; rw [hk] at h; simp only [] at h; subst h; exact nil_prefix
  | some c => rw [hold.is hk] at h; exact h.trans (r c hk E)
 ·unfold hold at h ⊢; rw [upd_ne tn c' e]; exact h
def Good (cs : List Ch) (tn : Tn) (j : Mem) (e : Int) (X : List Ent) : Prop := ∀ k e' f, Inh cs k j e' f → e ≤ e' → ∀ E, e ≤ E → f ≤ E → hold tn k E X
def Pot (cs : List Ch) (tn : Tn) (e : Int) (X : List Ent) : Prop :=
 (∀ c ∈ cs, e ≤ c.ep → ∀ k ∈ c.ms, ∀ E, e ≤ E → c.ep - 1 ≤ E → hold tn k E X) ∧
 (∀ c ∈ cs, c.ep = e → ∀ q, c.ln = some q → ∀ z, c.ms.getLast? = some z → hold tn q e X ∨ hold tn z (e - 1) X)
section
variable {cs : List Ch} {tn : Tn} {j : Mem} {e : Int} {X Y : List Ent}
theorem Good.sub (h : Good cs tn j e X) (hs : Y <+: X) : Good cs tn j e Y := fun k e' f hi he E h1 h2 => (h k e' f hi he E h1 h2).sub hs
theorem Good.nil : Good cs tn j e [] := fun _ _ _ _ _ _ _ _ => hold.nil
theorem Good.later {e' : Int} (h : Good cs tn j e X) (he : e ≤ e') : Good cs tn j e' X := fun k a f hi ha E h1 h2 => h k a f hi (by omega) E (by omega) h2
theorem Good.map {tn' : Tn} (hh : ∀ k E X, hold tn k E X → hold tn' k E X) (h : Good cs tn j e X) : Good cs tn' j e X := fun k e' f hi he E h1 h2 => hh _ _ _ (h k e' f hi he E h1 h2)
theorem Pot.sub (h : Pot cs tn e X) (hs : Y <+: X) : Pot cs tn e Y := ⟨fun c hc he k hk E h1 h2 => (h.1 c hc he k hk E h1 h2).sub hs, fun c hc he q hq z hz => (h.2 c hc he q hq z hz).imp (·.sub hs) (·.sub hs)⟩
theorem Pot.nil : Pot cs tn e [] := ⟨fun _ _ _ _ _ _ _ _ => hold.nil, fun _ _ _ _ _ _ _ => .inl hold.nil⟩
theorem Pot.map {tn' : Tn} (hh : ∀ k E X, hold tn k E X → hold tn' k E X) (h : Pot cs tn e X) : Pot cs tn' e X := ⟨fun c hc he k hk E h1 h2 => hh _ _ _ (h.1 c hc he k hk E h1 h2), fun c hc he q hq z hz => (h.2 c hc he q hq z hz).imp (hh _ _ _) (hh _ _ _)⟩
theorem getLast_mem {α : Type} {l : List α} {z : α} (h : l.getLast? = some z) : z ∈ l := mem_of_getLast? h
theorem Pot.later {e' : Int} (h : Pot cs tn e X) (he : e ≤ e') : Pot cs tn e' X := by
 refine ⟨fun c hc hce k hk E h1 h2 => h.1 c hc (by omega) k hk E (by omega) h2, fun c hc hce q hq z hz => ?_⟩
 by_cases h0 : e = e'
 ·subst h0; exact h.2 c hc hce q hq z hz
 ·exact .inr (h.1 c hc (by omega) z (getLast_mem hz) (e' - 1) (by omega) (by omega))
end
structure NewCh (cs : List Ch) (tn : Tn) (c c' : Ch) : Prop where
 top : ∀ d ∈ cs, d.ep ≤ c.ep
 mem : c ∈ cs
 ep : c'.ep = c.ep + 1
 nx : Nx c c'
 gr : ∀ q z, c.ln = some q → c'.ms = c.ms ++ [q] → c.ms.getLast? = some z → ∀ E X, E < c.ep → hold tn z E X → hold tn q c.ep X
section
variable {cs : List Ch} {tn : Tn} {c c' : Ch}
theorem Inh.old {k j : Mem} {e f : Int} (n : NewCh cs tn c c') (h : Inh (c' :: cs) k j e f) (he : e ≤ c.ep) (hf : f + 1 ≤ c.ep) : Inh cs k j e f := by
 have hold : ∀ d ∈ c' :: cs, d.ep ≤ c.ep → d ∈ cs := fun d hd hde => by
  rcases mem_cons.1 hd with rfl | hd
  ·have := n.ep; omega
  ·exact hd
 induction h with
 | here hc hs => exact .here (hold _ hc he) hs
 | step h1 h2 he2 hl hm hz hi hle hff ih => exact .step (hold _ h1 (by omega)) (hold _ h2 (by omega)) he2 hl hm hz (ih he (by omega)) hle hff
theorem Good.new {j : Mem} {e : Int} {X : List Ent} (hc : Chs (c' :: cs)) (ok : OkTn tn) (n : NewCh cs tn c c') (hj : j.sn ≤ c.ep) (he : e ≤ c.ep) (h : Good cs tn j e X) : Good (c' :: cs) tn j e X := by
 intro k e' f hi hee E h1 h2
 have hep := n.ep
 have hcm : c ∈ c' :: cs := mem_cons_of_mem _ n.mem
 cases hi with
 | @here _ _ d hd hs =>
  rcases mem_cons.1 hd with rfl | hd
  ·exact h k c.ep 0 (.here n.mem (hc.back hcm (mem_cons_self ..) (by omega) hs hj)) he E h1 h2
  ·exact h k d.ep 0 (.here hd hs) hee E h1 h2
 | @step _ z _ d d' _ f' hd hd' hdd hl hm hz hi hle hff =>
  rcases mem_cons.1 hd' with rfl | hd'
  ·have hdc : d = c := hc.un d hd c hcm (by omega)
   subst hdc
   have ho := Inh.old n hi (by omega) hff
   have := h z e' f' ho hee (d.ep - 1) (by omega) (by omega)
   exact (n.gr k z hl hm hz (d.ep - 1) X (by omega) this).mono ok h2
  ·have hde : d'.ep ≤ c.ep := n.top d' hd'
   have hdm : d ∈ cs := by
    rcases mem_cons.1 hd with rfl | hd
    ·omega
    ·exact hd
   exact h k e' d.ep (.step hdm hd' hdd hl hm hz (Inh.old n hi (by omega) (by omega)) hle hff) hee E h1 h2
theorem Nx.ms_mem {k : Mem} (h : Nx c c') (hk : k ∈ c'.ms) : k ∈ c.ms ∨ c.ln = some k ∧ c'.ms = c.ms ++ [k] := by
 cases h with
 | drop n h h2 => exact .inl (h2.subset hk)
 | add m h hm h2 => rw [h2] at hk; exact .inl hk
 | grow m h hl h2 =>
  rw [h2] at hk
  rcases mem_append.1 hk with hk | hk
  ·exact .inl hk
  ·rw [mem_singleton.1 hk]; exact .inr ⟨hl, h2⟩
theorem ChOk.last {c : Ch} (h : ChOk c) : ∃ z, c.ms.getLast? = some z := by
 have := h.l1
 cases hm : c.ms.getLast? with
 | none => rw [List.getLast?_eq_none_iff] at hm; rw [hm] at this; simp at this
 | some z => exact ⟨z, rfl⟩
theorem Pot.new {e : Int} {X : List Ent} (hc : Chs (c' :: cs)) (ok : OkTn tn) (n : NewCh cs tn c c') (he : e ≤ c.ep) (h : Pot cs tn e X) : Pot (c' :: cs) tn e X := by
 have hep := n.ep
 have hcm : c ∈ c' :: cs := mem_cons_of_mem _ n.mem
 refine ⟨fun d hd hde k hk E h1 h2 => ?_, fun d hd hde q hq z hz => ?_⟩
 ·rcases mem_cons.1 hd with rfl | hd
  ·rcases n.nx.ms_mem hk with hk | ⟨hl, hm⟩
   ·exact h.1 c n.mem he k hk E h1 (by omega)
   ·obtain ⟨z, hz⟩ := (hc.ok c hcm).last
    by_cases h0 : e < c.ep
    ·exact (n.gr k z hl hm hz (c.ep - 1) X (by omega) (h.1 c n.mem he z (getLast_mem hz) (c.ep - 1) (by omega) (by omega))).mono ok (by omega)
    ·rcases h.2 c n.mem (by omega) k hl z hz with h3 | h3
     ·exact h3.mono ok h1
     ·exact (n.gr k z hl hm hz (e - 1) X (by omega) h3).mono ok (by omega)
  ·exact h.1 d hd hde k hk E h1 h2
 ·rcases mem_cons.1 hd with rfl | hd
  ·omega
  ·exact h.2 d hd hde q hq z hz
def Grw (cs : List Ch) (tn : Tn) : Prop := ∀ c ∈ cs, ∀ c' ∈ cs, c.ep + 1 = c'.ep → ∀ k z, c.ln = some k → c'.ms = c.ms ++ [k] → c.ms.getLast? = some z → ∃ cz, tn z = some cz ∧ c.ep ≤ cz.ep
theorem tail (hc : Chs cs) (hg : Grw cs tn) {c : Ch} (hm : c ∈ cs) {j : Mem} (hA : ∀ k ∈ c.ms, k = j ∨ [k, j].Sublist c.all)
  (hB : ∀ q, c.ln = some q → q = j ∨ c.ms.getLast? = some j ∧ ∀ cj, tn j = some cj → cj.ep < c.ep) (hC : ∀ cj, tn j = some cj → cj.ep ≤ c.ep) :
  ∀ c' ∈ cs, c.ep ≤ c'.ep → ∀ k ∈ c'.ms, k = j ∨ ∃ f, f + 1 ≤ c'.ep ∧ Inh cs k j c.ep f := by
 intro c' hm' hle
 obtain ⟨n, hn⟩ : ∃ n : Nat, c'.ep = c.ep + (n : Int) := ⟨(c'.ep - c.ep).toNat, by omega⟩
 induction n generalizing c' with
 | zero =>
  have : c' = c := hc.un c' hm' c hm (by omega)
  subst this
  intro k hk
  rcases hA k hk with h | h
  ·exact .inl h
  ·exact .inr ⟨0, (hc.ok c' hm).e1, .here hm h⟩
 | succ n ih =>
  have h1 := (hc.ok c hm).e1
  obtain ⟨d, hd, hde, hx⟩ := hc.nx c' hm' (by omega)
  intro k hk
  rcases hx.ms_mem hk with hk | ⟨hl, hms⟩
  ·rcases ih d hd (by omega) (by omega) k hk with h | ⟨f, hf, h⟩
   ·exact .inl h
   ·exact .inr ⟨f, by omega, h⟩
  ·obtain ⟨z, hz⟩ := (hc.ok d hd).last
   obtain ⟨cz, hcz, hle2⟩ := hg d hd c' hm' hde k z hl hms hz
   by_cases h0 : d.ep = c.ep
   ·have : d = c := hc.un d hd c hm h0
    subst this
    rcases hB k hl with h | ⟨h, h3⟩
    ·exact .inl h
    ·rw [hz] at h; cases h
     have := h3 cz hcz; omega
   ·rcases ih d hd (by omega) (by omega) z (getLast_mem hz) with h | ⟨f, hf, h⟩
    ·subst h
     have := hC cz hcz; omega
    ·exact .inr ⟨d.ep, by omega, .step hd hm' hde hl hms hz h (by omega) hf⟩
end
end Go.Proofs.YtejfahjgfedliaaGreat
