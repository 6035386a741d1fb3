/-
  Texts of one road, one behind the other.
-/
import Derived.Test.YtejfahjgfedliaaGreatQKe
import Derived.Test.YtejfahjgfedliaaGreatQKc
import Derived.Test.YtejfahjgfedliaaGreatQKb
set_option linter.unusedVariables false
set_option linter.unusedSimpArgs false
namespace Go.Proofs.YtejfahjgfedliaaGreat
open Go Go.Sl Go.Proofs.Tryz
def LPost (b cb : Nat) (dc rg nd : Int) (d w : Nat) (torn : Int) (c : CS) (l : List Lf) (H' : HH) : Prop :=
 ∃ v hv hd, H' = [LgBk b cb dc rg nd d w true, CsBk cb c v, hv, WBk w d (lastN l) torn, hd] ∧ IsSl 43 c.lg v hv ∧ IsDk (dk l) d hd
theorem may_room {l : List Lf} (h : roomB l 1 = true) : mayN l = 0 := if_pos h
theorem may_full {l : List Lf} (h : roomB l 1 = false) : mayN l = 51 := if_neg (by rw [h]; decide)
section
variable {l : List Lf} (ok : LOk l) (b cb : Nat) (dc rg nd : Int) {d w : Nat} {torn : Int} {hd : Hp} (hdk : IsDk (dk l) d hd) {c : CS} (okc : CsOk c) {v : Value} {hv : Hp} (hs : IsSl 43 c.lg v hv)
include ok hdk okc hs
theorem lsyncU_ct : Ct prog 27 [.pointer (some ⟨b, 0, none⟩)] [LgBk b cb dc rg nd d w true, CsBk cb c v, hv, WBk w d (lastN l) torn, hd]
  (fun r H' => r = .tuple #[] ∧ LPost b cb dc rg nd d w torn c.sync (lsync l) H') := by
 have hsy := sync_ct ok hdk (w := w) (seg := lastN l) (torn := torn)
 have hcs := csync_ct okc cb hs
 rw [← lastN_sync l] at hsy
 refine Ct.mk' func27 rfl rfl rfl (fun g R => ?_)
 try simp only [ca]
 simp only [na]
 rw [← lastN_sync l]
 try refine runS ?_
 refine WX.call rfl hsy rfl ?_
 rintro _ _ ⟨hd', rfl, rfl, hdk'⟩
 simp only [ca, na]
 try refine runS ?_
 refine WX.call rfl hcs rfl ?_
 rintro _ _ ⟨rfl, v', hv', rfl, hs'⟩
 simp only [ca, na]
 try refine runS ?_
 exact D.finE [LgBk b cb dc rg nd d w true, CsBk cb c.sync v', hv', WBk w d (lastN (lsync l)) torn, hd'] _ rfl ⟨rfl, v', hv', hd', rfl, hs', hdk'⟩
def takeLS (l : List Lf) (c : CS) (fr ep ix : Int) (e : Ent) : Bool × CS × List Lf :=
 if roomB l 1 = true then ((c.take fr ep ix e).1, (c.take fr ep ix e).2, grownL l (c.take fr ep ix e).2 c.len) else (false, c, l)
set_option maxRecDepth 10000 in
theorem ltakeU_ct (fr ep ix : Int) (e : Ent) : Ct prog 25 [.pointer (some ⟨b, 0, none⟩), .int .i64 fr, .int .i64 ep, .int .i64 ix, .agg (List.toArray e.enc)] [LgBk b cb dc rg nd d w true, CsBk cb c v, hv, WBk w d (lastN l) torn, hd]
  (fun r H' => r = .bool (takeLS l c fr ep ix e).1 ∧ LPost b cb dc rg nd d w torn (takeLS l c fr ep ix e).2.1 (takeLS l c fr ep ix e).2.2 H') := by
 have hmay := lmay_ct ok b cb dc rg nd (w := w) (seg := lastN l) (torn := torn) hdk
 have hll := okc.len
 have hln : c.len = (c.lg.length : Int) := rfl
 cases hrm : roomB l 1 with
 | false =>
  have e0 : takeLS l c fr ep ix e = (false, c, l) := if_neg (by rw [hrm]; decide)
  rw [e0]
  rw [may_full hrm] at hmay
  refine Ct.mk' func25 rfl rfl rfl (fun g R => ?_)
  try simp only [ca]
  simp only [na]
  repeat' (first | refine runS ?_ | refine bx rfl (fun _ => ?_) | refine WX.callQ rfl hmay rfl ?_ | fail)
  exact D.fin1 [LgBk b cb dc rg nd d w true, CsBk cb c v, hv, WBk w d (lastN l) torn, hd] _ rfl rfl ⟨rfl, v, hv, hd, rfl, hs, hdk⟩
 | true =>
  have e0 : takeLS l c fr ep ix e = ((c.take fr ep ix e).1, (c.take fr ep ix e).2, grownL l (c.take fr ep ix e).2 c.len) := if_pos hrm
  rw [e0]
  rw [may_room hrm] at hmay
  have hlc := clen_ct c cb hs.rs
  have htk := ctake_ct okc cb hs fr ep ix e
  have okt := okc.take fr ep ix e
  generalize c.take fr ep ix e = t at htk okt ⊢
  refine Ct.mk' func25 rfl rfl rfl (fun g R => ?_)
  try simp only [ca]
  simp only [na]
  repeat' (first | refine runS ?_ | refine bx rfl (fun _ => ?_) | refine WX.callQ rfl hmay rfl ?_ | refine WX.callQ rfl hlc rfl ?_ | fail)
  rename_i b9
  refine W.mixN 8 [true, true, true, true, true, true, true, true, false] [LgBk b cb dc rg nd d w true, EnBk b9 e] Tryz.mix (by kernel_rfl) ?_
  repeat' (first | refine runS ?_ | refine lAN (t := 43) e.enc e.enc rfl ?_ | fail)
  refine WX.call rfl htk rfl ?_
  rintro _ _ ⟨rfl, v', hv', rfl, hs'⟩
  have hgr := lgrown_ct ok b cb dc rg nd (w := w) (torn := torn) hdk okt hs'.rs (was := c.len) (by omega) (by omega)
  simp only [ca, na]
  try refine runS ?_
  refine WX.call rfl hgr rfl ?_
  rintro _ _ ⟨rfl, hd', rfl, hdk'⟩
  simp only [ca, na]
  try refine runS ?_
  exact D.fin1 [LgBk b cb dc rg nd d w true, CsBk cb t.2 v', hv', WBk w d (lastN (grownL l t.2 c.len)) torn, hd'] _ rfl rfl ⟨rfl, v', hv', hd', rfl, hs', hdk'⟩
def injLS (l : List Lf) (c : CS) (e : Ent) : Int × CS × List Lf :=
 if roomB l 1 = true then ((c.inject e).1, (c.inject e).2, grownL l (c.inject e).2 c.len) else (51, c, l)
set_option maxRecDepth 10000 in
theorem linjU_ct (e : Ent) : Ct prog 52 [.pointer (some ⟨b, 0, none⟩), .agg (List.toArray e.enc)] [LgBk b cb dc rg nd d w true, CsBk cb c v, hv, WBk w d (lastN l) torn, hd]
  (fun r H' => r = .int .i64 (injLS l c e).1 ∧ LPost b cb dc rg nd d w torn (injLS l c e).2.1 (injLS l c e).2.2 H') := by
 have hmay := lmay_ct ok b cb dc rg nd (w := w) (seg := lastN l) (torn := torn) hdk
 have hll := okc.len
 have hln : c.len = (c.lg.length : Int) := rfl
 cases hrm : roomB l 1 with
 | false =>
  have e0 : injLS l c e = (51, c, l) := if_neg (by rw [hrm]; decide)
  rw [e0]
  rw [may_full hrm] at hmay
  refine Ct.mk' func52 rfl rfl rfl (fun g R => ?_)
  try simp only [ca]
  simp only [na]
  repeat' (first | refine runS ?_ | refine bx rfl (fun _ => ?_) | refine WX.callQ rfl hmay rfl ?_ | fail)
  exact D.fin1 [LgBk b cb dc rg nd d w true, CsBk cb c v, hv, WBk w d (lastN l) torn, hd] _ rfl rfl ⟨rfl, v, hv, hd, rfl, hs, hdk⟩
 | true =>
  have e0 : injLS l c e = ((c.inject e).1, (c.inject e).2, grownL l (c.inject e).2 c.len) := if_pos hrm
  rw [e0]
  rw [may_room hrm] at hmay
  have hlc := clen_ct c cb hs.rs
  have htk := cinject_ct okc cb hs e
  have okt := okc.inject e
  generalize c.inject e = t at htk okt ⊢
  refine Ct.mk' func52 rfl rfl rfl (fun g R => ?_)
  try simp only [ca]
  simp only [na]
  repeat' (first | refine runS ?_ | refine bx rfl (fun _ => ?_) | refine WX.callQ rfl hmay rfl ?_ | refine WX.callQ rfl hlc rfl ?_ | fail)
  rename_i b9
  refine W.mixN 8 [true, true, true, true, true, false] [LgBk b cb dc rg nd d w true, EnBk b9 e] Tryz.mix (by kernel_rfl) ?_
  repeat' (first | refine runS ?_ | refine lAN (t := 43) e.enc e.enc rfl ?_ | fail)
  refine WX.call rfl htk rfl ?_
  rintro _ _ ⟨rfl, v', hv', rfl, hs'⟩
  have hgr := lgrown_ct ok b cb dc rg nd (w := w) (torn := torn) hdk okt hs'.rs (was := c.len) (by omega) (by omega)
  simp only [ca, na]
  try refine runS ?_
  refine WX.call rfl hgr rfl ?_
  rintro _ _ ⟨rfl, hd', rfl, hdk'⟩
  simp only [ca, na]
  try refine runS ?_
  exact D.fin1 [LgBk b cb dc rg nd d w true, CsBk cb t.2 v', hv', WBk w d (lastN (grownL l t.2 c.len)) torn, hd'] _ rfl rfl ⟨rfl, v', hv', hd', rfl, hs', hdk'⟩
def putLS (l : List Lf) (c : CS) (key val : ByteArray) (dead : Bool) (deps : V9) (clock cl op : Int) : (Int × Int) × CS × List Lf :=
 if roomB l 1 = true then ((c.putS key val dead deps clock cl op).1, (c.putS key val dead deps clock cl op).2, grownL l (c.putS key val dead deps clock cl op).2 c.len) else ((0, 51), c, l)
set_option maxRecDepth 10000 in
theorem lputU_ct (key val : ByteArray) (dead : Bool) (deps : V9) (clock cl op : Int) : Ct prog 26 [.pointer (some ⟨b, 0, none⟩), .string key, .string val, .bool dead, .agg (List.toArray deps.enc), .int .i64 clock, .int .i64 cl, .int .i64 op] [LgBk b cb dc rg nd d w true, CsBk cb c v, hv, WBk w d (lastN l) torn, hd]
  (fun r H' => r = .tuple #[.int .i64 (putLS l c key val dead deps clock cl op).1.1, .int .i64 (putLS l c key val dead deps clock cl op).1.2] ∧ LPost b cb dc rg nd d w torn (putLS l c key val dead deps clock cl op).2.1 (putLS l c key val dead deps clock cl op).2.2 H') := by
 have hmay := lmay_ct ok b cb dc rg nd (w := w) (seg := lastN l) (torn := torn) hdk
 have hll := okc.len
 have hln : c.len = (c.lg.length : Int) := rfl
 cases hrm : roomB l 1 with
 | false =>
  have e0 : putLS l c key val dead deps clock cl op = ((0, 51), c, l) := if_neg (by rw [hrm]; decide)
  rw [e0]
  rw [may_full hrm] at hmay
  refine Ct.mk' func26 rfl rfl rfl (fun g R => ?_)
  try simp only [ca]
  simp only [na]
  repeat' (first | refine runS ?_ | refine bx rfl (fun _ => ?_) | refine WX.callQ rfl hmay rfl ?_ | fail)
  exact D.fin2 [LgBk b cb dc rg nd d w true, CsBk cb c v, hv, WBk w d (lastN l) torn, hd] _ rfl rfl rfl ⟨rfl, v, hv, hd, rfl, hs, hdk⟩
 | true =>
  have e0 : putLS l c key val dead deps clock cl op = ((c.putS key val dead deps clock cl op).1, (c.putS key val dead deps clock cl op).2, grownL l (c.putS key val dead deps clock cl op).2 c.len) := if_pos hrm
  rw [e0]
  rw [may_room hrm] at hmay
  have hlc := clen_ct c cb hs.rs
  have htk := cput_ct okc cb hs key val dead deps clock cl op
  have okt := okc.put key val dead deps clock cl op
  generalize c.putS key val dead deps clock cl op = t at htk okt ⊢
  refine Ct.mk' func26 rfl rfl rfl (fun g R => ?_)
  try simp only [ca]
  simp only [na]
  repeat' (first | refine runS ?_ | refine bx rfl (fun _ => ?_) | refine WX.callQ rfl hmay rfl ?_ | refine WX.callQ rfl hlc rfl ?_ | fail)
  rename_i b9
  refine W.mixN 8 [true, true, true, true, true, true, true, true, true, true, true, false, true, true, true, true] [LgBk b cb dc rg nd d w true, VcBk b9 deps] Tryz.mix (by kernel_rfl) ?_
  repeat' (first | refine runS ?_ | refine lAN (t := 37) deps.enc deps.enc rfl ?_ | fail)
  refine WX.call rfl htk rfl ?_
  rintro _ _ ⟨rfl, v', hv', rfl, hs'⟩
  have hgr := lgrown_ct ok b cb dc rg nd (w := w) (torn := torn) hdk okt hs'.rs (was := c.len) (by omega) (by omega)
  simp only [ca, na]
  try refine runS ?_
  refine WX.call rfl hgr rfl ?_
  rintro _ _ ⟨rfl, hd', rfl, hdk'⟩
  simp only [ca, na]
  try refine runS ?_
  exact D.fin2 [LgBk b cb dc rg nd d w true, CsBk cb t.2 v', hv', WBk w d (lastN (grownL l t.2 c.len)) torn, hd'] _ rfl rfl rfl ⟨rfl, v', hv', hd', rfl, hs', hdk'⟩
end
end Go.Proofs.YtejfahjgfedliaaGreat

namespace Go.Proofs.YtejfahjgfedliaaGreat
open Go Go.Sl Go.Proofs.Tryz List
def entLS (l : List Lf) (c : CS) (x : Cfg) : (Bool × Int) × CS × List Lf :=
 if roomB l 2 = true then
  (if (c.enter x).1.2 = 0 then ((c.enter x).1, (c.enter x).2, lsync (ladd1 (if (c.enter x).1.1 = true then (lcut l).1 else l) (recN x (c.enter x).2.bs)).1) else ((c.enter x).1, (c.enter x).2, l))
 else ((false, 51), c, l)
set_option maxRecDepth 10000 in
set_option maxHeartbeats 1000000 in
theorem lentU_ct {l : List Lf} (ok : LOk l) (b cb : Nat) (dc rg nd : Int) {d w : Nat} {torn : Int} {hd : Hp} (hdk : IsDk (dk l) d hd) {c : CS} (okc : CsOk c) {v : Value} {hv : Hp} (hs : IsSl 43 c.lg v hv) (x : Cfg) :
  Ct prog 39 [.pointer (some ⟨b, 0, none⟩), .agg (List.toArray x.enc)] [LgBk b cb dc rg nd d w true, CsBk cb c v, hv, WBk w d (lastN l) torn, hd]
   (fun r H' => r = .tuple #[.bool (entLS l c x).1.1, .int .i64 (entLS l c x).1.2] ∧ LPost b cb dc rg nd d w torn (entLS l c x).2.1 (entLS l c x).2.2 H') := by
 have hrm := room_ct ok hdk (w := w) (seg := lastN l) (torn := torn) 2
 cases hr : roomB l 2 with
 | false =>
  have e0 : entLS l c x = ((false, 51), c, l) := if_neg (by rw [hr]; decide)
  rw [e0]
  rw [hr] at hrm
  refine Ct.mk' func39 rfl rfl rfl (fun g R => ?_)
  try simp only [ca]
  simp only [na]
  repeat' (first | refine runS ?_ | refine bx rfl (fun _ => ?_) | refine WX.callQ rfl hrm rfl ?_ | fail)
  exact D.fin2 [LgBk b cb dc rg nd d w true, CsBk cb c v, hv, WBk w d (lastN l) torn, hd] _ rfl rfl rfl ⟨rfl, v, hv, hd, rfl, hs, hdk⟩
 | true =>
  rw [hr] at hrm
  have htk := center_ct okc cb hs x
  have okt := okc.enter x
  have e0 : entLS l c x = (if (c.enter x).1.2 = 0 then ((c.enter x).1, (c.enter x).2, lsync (ladd1 (if (c.enter x).1.1 = true then (lcut l).1 else l) (recN x (c.enter x).2.bs)).1) else ((c.enter x).1, (c.enter x).2, l)) := if_pos hr
  rw [e0]
  clear e0
  generalize c.enter x = t at htk okt ⊢
  obtain ⟨⟨rst, er⟩, c'⟩ := t
  simp only [] at htk okt ⊢
  by_cases he : er = 0
  ·subst he
   rw [if_pos rfl]
   cases rst with
   | true =>
    rw [if_pos rfl]
    have hcut := cut_ct ok hdk (w := w) (torn := torn)
    have okk := ok.cut
    refine Ct.mk' func39 rfl rfl rfl (fun g R => ?_)
    try simp only [ca]
    simp only [na]
    repeat' (first | refine runS ?_ | refine bx rfl (fun _ => ?_) | refine WX.callQ rfl hrm rfl ?_ | fail)
    rename_i b3
    refine W.mixN 8 [true, true, true, true, true, false, true, true, true, true] [LgBk b cb dc rg nd d w true, CfBk b3 x] Tryz.mix (by kernel_rfl) ?_
    repeat' (first | refine runS ?_ | refine lAN (t := 34) x.enc x.enc rfl ?_ | fail)
    refine WX.call rfl htk rfl ?_
    rintro _ _ ⟨rfl, v', hv', rfl, hs'⟩
    simp only [ca, na]
    try refine runS ?_
    refine WX.call rfl hcut rfl ?_
    rintro _ _ ⟨hd0, rfl, rfl, hdk0⟩
    simp only [ca, na]
    have hbs := cbase_ct c' cb v'
    try refine runS ?_
    refine W.mixN 8 [true, true, true, true, true, true, true, true, true, false, true, false, false] [LgBk b cb dc rg nd d w true, CfBk b3 x] Tryz.mix (by kernel_rfl) ?_
    repeat' (first | refine runS ?_ | refine lAN (t := 34) x.enc x.enc rfl ?_ | refine WX.callQ rfl hbs rfl ?_ | refine bdN (t := 108) (recN x c'.bs).enc ?_ | fail)
    refine I.bs ?_
    refine WX.lit (ys := [recN x c'.bs]) rfl rfl rfl rfl rfl rfl (by decide) rfl (fun v2 h2 hs2 => ?_)
    try refine runS ?_
    have hadd := add_ct okk hdk0 hs2.rs (by simp) (fun r hr => by
     rw [mem_singleton.1 hr]
     show (0 : Nat) ≤ 1073741824
     omega) (w := w) (torn := torn)
    rw [ladd_1] at hadd
    refine WX.call rfl hadd rfl ?_
    rintro _ _ ⟨hd1, rfl, rfl, hdk1⟩
    have hsy := sync_ct (LOk.add1 okk (recN x c'.bs)) hdk1 (w := w) (seg := lastN (ladd1 (lcut l).1 (recN x c'.bs)).1) (torn := torn)
    simp only [ca, na]
    try refine runS ?_
    refine WX.call rfl hsy rfl ?_
    rintro _ _ ⟨hd2, rfl, rfl, hdk2⟩
    simp only [ca, na]
    try refine runS ?_
    exact D.fin2 [LgBk b cb dc rg nd d w true, CsBk cb c' v', hv', WBk w d (lastN (ladd1 (lcut l).1 (recN x c'.bs)).1) torn, hd2] _ rfl rfl rfl ⟨rfl, v', hv', hd2, by rw [lastN_sync], hs', hdk2⟩
   | false =>
    rw [if_neg (by decide)]
    refine Ct.mk' func39 rfl rfl rfl (fun g R => ?_)
    try simp only [ca]
    simp only [na]
    repeat' (first | refine runS ?_ | refine bx rfl (fun _ => ?_) | refine WX.callQ rfl hrm rfl ?_ | fail)
    rename_i b3
    refine W.mixN 8 [true, true, true, true, true, false, true, true, true, true] [LgBk b cb dc rg nd d w true, CfBk b3 x] Tryz.mix (by kernel_rfl) ?_
    repeat' (first | refine runS ?_ | refine lAN (t := 34) x.enc x.enc rfl ?_ | fail)
    refine WX.call rfl htk rfl ?_
    rintro _ _ ⟨rfl, v', hv', rfl, hs'⟩
    simp only [ca, na]
    try refine runS ?_
    have hbs := cbase_ct c' cb v'
    skip
    refine W.mixN 8 [true, true, true, true, true, true, true, true, true, false, true, false, false] [LgBk b cb dc rg nd d w true, CfBk b3 x] Tryz.mix (by kernel_rfl) ?_
    repeat' (first | refine runS ?_ | refine lAN (t := 34) x.enc x.enc rfl ?_ | refine WX.callQ rfl hbs rfl ?_ | refine bdN (t := 108) (recN x c'.bs).enc ?_ | fail)
    refine I.bs ?_
    refine WX.lit (ys := [recN x c'.bs]) rfl rfl rfl rfl rfl rfl (by decide) rfl (fun v2 h2 hs2 => ?_)
    try refine runS ?_
    have hadd := add_ct ok hdk hs2.rs (by simp) (fun r hr => by
     rw [mem_singleton.1 hr]
     show (0 : Nat) ≤ 1073741824
     omega) (w := w) (torn := torn)
    rw [ladd_1] at hadd
    refine WX.call rfl hadd rfl ?_
    rintro _ _ ⟨hd1, rfl, rfl, hdk1⟩
    have hsy := sync_ct (LOk.add1 ok (recN x c'.bs)) hdk1 (w := w) (seg := lastN (ladd1 l (recN x c'.bs)).1) (torn := torn)
    simp only [ca, na]
    try refine runS ?_
    refine WX.call rfl hsy rfl ?_
    rintro _ _ ⟨hd2, rfl, rfl, hdk2⟩
    simp only [ca, na]
    try refine runS ?_
    exact D.fin2 [LgBk b cb dc rg nd d w true, CsBk cb c' v', hv', WBk w d (lastN (ladd1 l (recN x c'.bs)).1) torn, hd2] _ rfl rfl rfl ⟨rfl, v', hv', hd2, by rw [lastN_sync], hs', hdk2⟩
  ·rw [if_neg he]
   refine Ct.mk' func39 rfl rfl rfl (fun g R => ?_)
   try simp only [ca]
   simp only [na]
   repeat' (first | refine runS ?_ | refine bx rfl (fun _ => ?_) | refine WX.callQ rfl hrm rfl ?_ | fail)
   rename_i b3
   refine W.mixN 8 [true, true, true, true, true, false, true, true, true, true] [LgBk b cb dc rg nd d w true, CfBk b3 x] Tryz.mix (by kernel_rfl) ?_
   repeat' (first | refine runS ?_ | refine lAN (t := 34) x.enc x.enc rfl ?_ | fail)
   refine WX.call rfl htk rfl ?_
   rintro _ _ ⟨rfl, v', hv', rfl, hs'⟩
   simp only [ca, na]
   try refine runS ?_
   exact D.fin2 [LgBk b cb dc rg nd d w true, CsBk cb c' v', hv', WBk w d (lastN l) torn, hd] _ rfl rfl rfl ⟨rfl, v', hv', hd, rfl, hs', hdk⟩
end Go.Proofs.YtejfahjgfedliaaGreat

namespace Go.Proofs.YtejfahjgfedliaaGreat
open Go Go.Sl Go.Proofs.Tryz
theorem LOk.nilD : IsDk {} = IsDk (dk []) := rfl
theorem lnew_ct (dc rg nd : Int) : Ct prog 12 [.int .i64 dc, .int .i64 rg, .int .i64 nd] []
  (fun r H' => ∃ b cb d w hd, r = .pointer (some ⟨b, 0, none⟩) ∧ H' = [LgBk b cb dc rg nd d w true, CsBk cb (CS.new dc rg nd) (.slice none 0 0), WBk w d (lastN []) 0, hd] ∧ IsDk (dk []) d hd) := by
 refine Ct.mk' func12 rfl rfl rfl (fun g R => ?_)
 try simp only [ca]
 simp only [na]
 try refine runS ?_
 refine WX.call rfl dnew_ct rfl ?_
 rintro _ _ ⟨d, h0, rfl, rfl, hd0⟩
 have hd0 : IsDk (dk []) d h0 := hd0
 simp only [ca, na]
 repeat' (first | refine runS ?_ | refine bx rfl (fun _ => ?_) | refine bdN [.pointer none, .int .i64 dc, .int .i64 rg, .int .i64 nd, .pointer (some ⟨d, 0, none⟩), .pointer none, .bool true] ?_ | fail)
 rename_i b
 refine WX.call rfl (open_whole LOk.nil hd0) rfl ?_
 rintro _ _ ⟨w, u, h1, ho, rfl, rfl, hd1, hs1⟩
 simp only [ca, na]
 try refine runS ?_
 refine I.st ?_
 refine stN [.pointer none, .int .i64 dc, .int .i64 rg, .int .i64 nd, .pointer (some ⟨d, 0, none⟩), .pointer none, .bool true] [.pointer none, .int .i64 dc, .int .i64 rg, .int .i64 nd, .pointer (some ⟨d, 0, none⟩), .pointer (some ⟨w, 0, none⟩), .bool true] rfl rfl ?_
 try refine runS ?_
 refine WX.call rfl (cnew_ct dc rg nd) rfl ?_
 rintro _ _ ⟨cb, rfl, rfl⟩
 simp only [ca, na]
 try refine runS ?_
 refine I.st ?_
 refine stN [.pointer none, .int .i64 dc, .int .i64 rg, .int .i64 nd, .pointer (some ⟨d, 0, none⟩), .pointer (some ⟨w, 0, none⟩), .bool true] [.pointer (some ⟨cb, 0, none⟩), .int .i64 dc, .int .i64 rg, .int .i64 nd, .pointer (some ⟨d, 0, none⟩), .pointer (some ⟨w, 0, none⟩), .bool true] rfl rfl ?_
 try refine runS ?_
 exact D.fin1 [LgBk b cb dc rg nd d w true, CsBk cb (CS.new dc rg nd) (.slice none 0 0), WBk w d (lastN []) 0, h1] _ rfl rfl ⟨b, cb, d, w, h1, rfl, rfl, hd1⟩
theorem lcrashU_ct {l : List Lf} (ok : LOk l) (b cb : Nat) (dc rg nd : Int) {d w : Nat} {seg torn : Int} {hd : Hp} (hdk : IsDk (dk l) d hd) (c : CS) (v : Value) {keep : Int} (hk1 : -9223372036854775808 ≤ keep) (hk2 : keep ≤ 9223372036854775807) :
  Ct prog 21 [.pointer (some ⟨b, 0, none⟩), .int .i64 keep] [LgBk b cb dc rg nd d w true, CsBk cb c v, WBk w d seg torn, hd]
   (fun r H' => r = .tuple #[] ∧ ∃ cb' hd', H' = [LgBk b cb' dc rg nd d w false, CsBk cb' (CS.new dc rg nd) (.slice none 0 0), WBk w d seg torn, hd'] ∧ IsDk ⟨crashL l keep.toNat, []⟩ d hd') := by
 have hcr := crashD_ct ok hdk hk1 hk2
 refine Ct.mk' func21 rfl rfl rfl (fun g R => ?_)
 try simp only [ca]
 simp only [na]
 try refine runS ?_
 refine WX.call rfl hcr rfl ?_
 rintro _ _ ⟨hd', rfl, rfl, hdk'⟩
 simp only [ca, na]
 try refine runS ?_
 refine I.st ?_
 refine stN [.pointer (some ⟨cb, 0, none⟩), .int .i64 dc, .int .i64 rg, .int .i64 nd, .pointer (some ⟨d, 0, none⟩), .pointer (some ⟨w, 0, none⟩), .bool true] [.pointer (some ⟨cb, 0, none⟩), .int .i64 dc, .int .i64 rg, .int .i64 nd, .pointer (some ⟨d, 0, none⟩), .pointer (some ⟨w, 0, none⟩), .bool false] rfl rfl ?_
 try refine runS ?_
 refine W.hp (H' := [hd', LgBk b cb dc rg nd d w false, CsBk cb c v, WBk w d seg torn, R]) rfl ?_
 refine W.mixN 8 (List.replicate 13 true ++ [false]) [LgBk b cb dc rg nd d w false] Tryz.mix (by kernel_rfl) ?_
 try refine runS ?_
 refine WX.call rfl (cnew_ct dc rg nd) rfl ?_
 rintro _ _ ⟨cb', rfl, rfl⟩
 simp only [ca, na]
 try refine runS ?_
 refine I.st ?_
 refine stN [.pointer (some ⟨cb, 0, none⟩), .int .i64 dc, .int .i64 rg, .int .i64 nd, .pointer (some ⟨d, 0, none⟩), .pointer (some ⟨w, 0, none⟩), .bool false] [.pointer (some ⟨cb', 0, none⟩), .int .i64 dc, .int .i64 rg, .int .i64 nd, .pointer (some ⟨d, 0, none⟩), .pointer (some ⟨w, 0, none⟩), .bool false] rfl rfl ?_
 try refine runS ?_
 exact D.finE [LgBk b cb' dc rg nd d w false, CsBk cb' (CS.new dc rg nd) (.slice none 0 0), WBk w d seg torn, hd'] _ rfl ⟨rfl, cb', hd', rfl, hdk'⟩
theorem lcrashD_ct (b cb : Nat) (dc rg nd : Int) (d w : Nat) (keep : Int) :
  Ct prog 21 [.pointer (some ⟨b, 0, none⟩), .int .i64 keep] [LgBk b cb dc rg nd d w false] (fun r H' => r = .tuple #[] ∧ H' = [LgBk b cb dc rg nd d w false]) := by
 refine Ct.mk' func21 rfl rfl rfl (fun g R => ?_)
 try simp only [ca]
 simp only [na]
 try refine runS ?_
 exact D.finE [LgBk b cb dc rg nd d w false] _ rfl ⟨rfl, rfl⟩
end Go.Proofs.YtejfahjgfedliaaGreat

namespace Go.Sl
open Go
section
variable {g : World} {P : Program} {Q : Exit → Act → World → Prop} {n : Nat} {L : Fm} {H : HH}
def BkJ (g : World) (n : Nat) {α : Type} (I : α → Prop) (L' : α → Fm) (H' : α → HH) : Act → World → Prop := fun a w => ∃ i, I i ∧ At g n (L' i) (H' i) a w
theorem least_nat {p : Nat → Prop} (h : ∃ v, p v) : ∃ v, p v ∧ ∀ u, p u → v ≤ u := by
 obtain ⟨v, hv⟩ := h
 induction v using Nat.strongRecOn with
 | _ v ih =>
  by_cases hl : ∃ u, u < v ∧ p u
  ·obtain ⟨u, hu, hp⟩ := hl
   exact ih u hu hp
  ·exact ⟨v, hv, fun u hu => Nat.le_of_not_lt fun h => hl ⟨u, h, hu⟩⟩
theorem W.scopeB {α : Type} {c rest : Code} (l : Nat) (hf : findLabel c l = some rest) (I : α → Prop) (L' : α → Fm) (H' : α → HH) (μ : α → Nat)
  (first : W g P c (Exit.jump l (BkJ g n I L' H') Q) n L H)
  (pass : ∀ i, I i → W g P rest (Exit.jump l (BkJ g n (fun j => I j ∧ μ j < μ i) L' H') Q) n (L' i) (H' i)) : W g P (.scope c) Q n L H := .mk fun a w ha hw => by
 have key : ∀ (a : Act) (w : World), ∃ v, (∀ i, I i → At g n (L' i) (H' i) a w → v ≤ μ i) ∧ (BkJ g n I L' H' a w → ∃ i, I i ∧ At g n (L' i) (H' i) a w ∧ μ i = v) := fun a w => by
  by_cases h : BkJ g n I L' H' a w
  ·obtain ⟨i0, h1, h2⟩ := h
   obtain ⟨v, ⟨i, h3, h4, h5⟩, h6⟩ := least_nat (p := fun v => ∃ i, I i ∧ At g n (L' i) (H' i) a w ∧ μ i = v) ⟨μ i0, i0, h1, h2, rfl⟩
   exact ⟨v, fun j k1 k2 => h6 _ ⟨j, k1, k2, rfl⟩, fun _ => ⟨i, h3, h4, h5⟩⟩
  ·exact ⟨0, fun _ _ _ => Nat.zero_le _, fun h' => absurd h' h⟩
 let m : Act → World → Nat := fun a w => Classical.choose (key a w)
 have hm : ∀ a w i, I i → At g n (L' i) (H' i) a w → m a w ≤ μ i := fun a w => (Classical.choose_spec (key a w)).1
 have hm2 : ∀ a w, BkJ g n I L' H' a w → ∃ i, I i ∧ At g n (L' i) (H' i) a w ∧ μ i = m a w := fun a w => (Classical.choose_spec (key a w)).2
 refine wp_scope_jumps l (BkJ g n I L' H') m hf (first a w ha hw) fun a w hJ => ?_
 obtain ⟨i, h1, ⟨h2, h3⟩, h4⟩ := hm2 a w hJ
 refine wp_mono (pass i h1 a w h2 h3) fun e a' w' hq => ?_
 cases e with
 | goto l' =>
  obtain ⟨e1, j, ⟨h5, h6⟩, h7⟩ := hq
  exact ⟨e1, ⟨j, h5, h7⟩, by rw [← h4]; exact Nat.lt_of_le_of_lt (hm a' w' j h5 h7) h6⟩
 | _ => exact hq
theorem W.into {c : Code} {L' : Fm} {H' : HH} (h : W g P c Q n L' H') (f : Fsub L L') (s : Hsub H H') : W g P c Q n L H := .mk fun a w ha hw => h a w (ha.sub f) (s.on hw)
theorem D.jmpB {α : Type} {l : Nat} {I : α → Prop} {L' : α → Fm} {H' : α → HH} (i : α) (hi : I i) (f : Fsub L (L' i)) (s : Hsub H (H' i)) : D g (Exit.jump l (BkJ g n I L' H') Q) (.goto l) n L H :=
 .mk fun _ _ ha hw => ⟨rfl, i, hi, ha.sub f, s.on hw⟩
end
end Go.Sl

namespace Go.Proofs.YtejfahjgfedliaaGreat
open Go Go.Sl Go.Proofs.Tryz List
theorem lstartU_ct (b cb : Nat) (dc rg nd : Int) (d w : Nat) :
  Ct prog 15 [.pointer (some ⟨b, 0, none⟩)] [LgBk b cb dc rg nd d w true] (fun r H' => r = .tuple #[] ∧ H' = [LgBk b cb dc rg nd d w true]) := by
 refine Ct.mk' func15 rfl rfl rfl (fun g R => ?_)
 try simp only [ca]
 simp only [na]
 repeat' (first | refine runS ?_ | refine W.scopeF 0 rfl ?_ | fail)
 first | exact D.finE [LgBk b cb dc rg nd d w true] _ rfl ⟨rfl, rfl⟩ | exact D.fin0 [LgBk b cb dc rg nd d w true] _ rfl ⟨rfl, rfl⟩
abbrev RcBk (b : Nat) (r : Rec) : Hp := [(b, .cells (List.toArray r.enc) 108 (0, 0))]
def rbK (nd : Int) (rs : List Rec) (i : Nat) : Rb := rbF nd (rs.take i)
theorem rbK_succ {nd : Int} {rs : List Rec} {i : Nat} {r : Rec} (h : rs[i]? = some r) : rbK nd rs (i + 1) = rbStep nd (rbK nd rs i) r := by
 unfold rbK; rw [take_add_one, h]; exact rbF_snoc nd _ r
structure StA where
 (w b3 b5 i : Nat)
 (u v : Value)
 (h ho hl : Hp)
 pr : Rec
 f : Rb
set_option maxRecDepth 10000 in
set_option maxHeartbeats 1000000 in
theorem lstartD_ct (b cb : Nat) (dc rg nd : Int) {d w : Nat} {hd : Hp} {l : List Lf} {rs : List Rec} {seg torn : Int}
  (hop : Ct prog 45 [.pointer (some ⟨d, 0, none⟩)] [hd] (fun res H' => ∃ w' u h' ho, res = .tuple #[.pointer (some ⟨w', 0, none⟩), u] ∧ H' = [WBk w' d seg torn, h', ho] ∧ IsDk (dk l) d h' ∧ IsSl 108 rs u ho))
  (hl : rs.length ≤ 1000000) (hrs : ∀ r ∈ rs, r.k = 1 ∧ EntR r.e ∨ r.k = 2 ∧ RightC r.c) :
  Ct prog 15 [.pointer (some ⟨b, 0, none⟩)] [LgBk b cb dc rg nd d w false, hd]
   (fun r H' => r = .tuple #[] ∧ ∃ cb' w' hd', ∃ v hv, H' = [LgBk b cb' dc rg nd d w' true, CsBk cb' (CS.restore dc rg nd (rbF nd rs).x (rbF nd rs).sn (rbF nd rs).bs (rbF nd rs).es) v, hv, WBk w' d seg torn, hd'] ∧
    IsSl 43 (CS.restore dc rg nd (rbF nd rs).x (rbF nd rs).sn (rbF nd rs).bs (rbF nd rs).es).lg v hv ∧ IsDk (dk l) d hd') := by
 refine Ct.mk' func15 rfl rfl rfl (fun g R => ?_)
 try simp only [ca]
 simp only [na]
 refine W.scopeB (α := StA) 0 rfl (fun a => a.i ≤ rs.length ∧ IsDk (dk l) d a.h ∧ IsSl 108 rs a.u a.ho ∧ IsSl 43 a.f.es a.v a.hl ∧ a.f.es.length ≤ a.i ∧ a.f = rbK nd rs a.i)
  (fun a => [(0, .pointer (some ⟨b, 0, none⟩)), (2, a.u), (3, .pointer (some ⟨a.b3, 0, none⟩)), (4, a.v), (5, .pointer (some ⟨a.b5, 0, none⟩)), (6, .int .i64 (a.i : Int)), (7, .int .i64 a.f.sn), (8, .int .i64 a.f.bs)])
  (fun a => [RcBk a.b5 a.pr, a.hl, CfBk a.b3 a.f.x, WBk a.w d seg torn, a.h, a.ho, LgBk b cb dc rg nd d a.w true, R]) (fun a => rs.length - a.i) ?_ ?_
 ·try refine runS ?_
  refine I.st ?_
  refine stN [.pointer (some ⟨cb, 0, none⟩), .int .i64 dc, .int .i64 rg, .int .i64 nd, .pointer (some ⟨d, 0, none⟩), .pointer (some ⟨w, 0, none⟩), .bool false] [.pointer (some ⟨cb, 0, none⟩), .int .i64 dc, .int .i64 rg, .int .i64 nd, .pointer (some ⟨d, 0, none⟩), .pointer (some ⟨w, 0, none⟩), .bool true] rfl rfl ?_
  try refine runS ?_
  refine WX.call rfl hop rfl ?_
  rintro _ _ ⟨w', u, h', ho, rfl, rfl, hdk, hsr⟩
  have hrr := hsr.rs
  obtain ⟨up, uc, rfl⟩ := hrr.len
  simp only [ca, na]
  try refine runS ?_
  refine I.st ?_
  refine stN [.pointer (some ⟨cb, 0, none⟩), .int .i64 dc, .int .i64 rg, .int .i64 nd, .pointer (some ⟨d, 0, none⟩), .pointer (some ⟨w, 0, none⟩), .bool true] [.pointer (some ⟨cb, 0, none⟩), .int .i64 dc, .int .i64 rg, .int .i64 nd, .pointer (some ⟨d, 0, none⟩), .pointer (some ⟨w', 0, none⟩), .bool true] rfl rfl ?_
  repeat' (first | refine runS ?_ | refine al (fun _ => ?_) | fail)
  rename_i b3 b5
  refine W.nilH ?_
  refine W.hp (H' := [[], RcBk b5 Rec.z, CfBk b3 Rb.z.x, WBk w' d seg torn, h', ho, LgBk b cb dc rg nd d w' true, R]) rfl ?_
  obtain ⟨i, hi0⟩ : ∃ i : Nat, i = 0 := ⟨_, rfl⟩
  obtain ⟨f, hf0⟩ : ∃ f, f = Rb.z := ⟨_, rfl⟩
  obtain ⟨v, hv0⟩ : ∃ v : Value, v = .slice none 0 0 := ⟨_, rfl⟩
  obtain ⟨pr, hp0⟩ : ∃ pr, pr = Rec.z := ⟨_, rfl⟩
  obtain ⟨hlg, hh0⟩ : ∃ h : Hp, h = [] := ⟨_, rfl⟩
  have hf : f = rbK nd rs i := by rw [hf0, hi0]; rfl
  have hsv : IsSl 43 f.es v hlg := by rw [hf0, hv0, hh0]; exact IsSl.nil _
  have hel : f.es.length ≤ i := by rw [hf0]; exact Nat.zero_le _
  have hi : i ≤ rs.length := by rw [hi0]; exact Nat.zero_le _
  refine W.into (L' := [(31, .bool (decide ((i : Int) = (rs.length : Int)))), (0, .pointer (some ⟨b, 0, none⟩)), (2, .slice up rs.length uc), (3, .pointer (some ⟨b3, 0, none⟩)), (4, v), (5, .pointer (some ⟨b5, 0, none⟩)), (6, .int .i64 (i : Int)), (7, .int .i64 f.sn), (8, .int .i64 f.bs)])
   (H' := [RcBk b5 pr, hlg, CfBk b3 f.x, WBk w' d seg torn, h', ho, LgBk b cb dc rg nd d w' true, R]) ?_ (by subst hi0 hf0 hv0; exact (by repeat (first | exact Fsub.nil | refine Fsub.cons rfl ?_))) (by subst hp0 hh0 hf0; exact (Hsub.of_picks inferInstance))
  clear hi0 hf0 hv0 hp0 hh0
  have hr1 := hsv.rs
  by_cases hlt : i < rs.length
  ·obtain ⟨r, hr⟩ : ∃ r, rs[i]? = some r := ⟨_, List.getElem?_eq_getElem hlt⟩
   have hsu := rbK_succ (nd := nd) hr
   rw [← hf] at hsu
   rcases hrs r (mem_of_getElem? hr) with ⟨k1, hre⟩ | ⟨k2, hrc⟩
   ·have hst : rbStep nd (f) r = ⟨(f).x, (f).sn, (f).bs, (f).es ++ [r.e]⟩ := if_pos k1
    rw [hst] at hsu
    repeat' (first | refine runS ?_ | refine WX.loadEW rfl hrr hr rfl rfl ?_ | refine lAN (t := 43) r.enc r.e.enc rfl ?_ | refine sGW (pr).enc r.enc rfl rfl ?_ | fail)
    refine I.bs ?_
    refine WX.lit (ys := [r.e]) rfl rfl rfl rfl rfl rfl (by decide) rfl (fun v2 h2 hs2 => ?_)
    skip
    refine WX.app rfl rfl hsv hs2.rs rfl rfl (by decide) (by simp only [length_cons, length_nil]; omega) rfl (fun v3 h3 hs3 => ?_)
    try refine runS ?_
    exact D.jmpB (⟨w', b3, b5, i + 1, .slice up rs.length uc, v3, h', ho, h3, r, ⟨(f).x, (f).sn, (f).bs, (f).es ++ [r.e]⟩⟩ : StA) ⟨by simp only []; omega, hdk, hsr, hs3, by simp only [length_append, length_cons, length_nil]; omega, hsu.symm⟩ (by repeat (first | exact Fsub.nil | refine Fsub.cons rfl ?_)) (Hsub.of_picks inferInstance)
   ·have hst : rbStep nd (f) r = ⟨r.c, if 0 < sinceO (some (chOf r.c)) nd then sinceO (some (chOf r.c)) nd else (f).sn, r.base, (f).es⟩ := if_neg (by omega)
    rw [hst] at hsu
    obtain ⟨c, hcx, okc, hch⟩ := rightC_ch hrc
    have hsi := sinceO_ct (ChO.some okc) nd
    rw [show cfO (some c) = r.c from hcx.symm] at hsi
    rw [hch] at hsu
    generalize sinceO (some c) nd = z at hsi hsu
    repeat' (first | refine runS ?_ | refine WX.loadEW rfl hrr hr rfl rfl ?_ | refine sGW (pr).enc r.enc rfl rfl ?_ | fail)
    refine W.mixN 8 [true, true, true, true, false] [RcBk b5 r] Tryz.mix (by kernel_rfl) ?_
    repeat' (first | refine runS ?_ | refine lAN (t := 34) r.enc r.c.enc rfl ?_ | refine sGW (f).x.enc r.c.enc rfl rfl ?_ | fail)
    refine W.quiet Tryz.mix (by kernel_rfl) ?_
    by_cases hz : 0 < z
    ·rw [if_pos hz] at hsu
     repeat' (first | refine runS ?_ | refine lAN (t := 34) r.c.enc r.c.enc rfl ?_ | refine WX.callQ rfl hsi rfl ?_ | fail)
     exact D.jmpB (⟨w', b3, b5, i + 1, .slice up rs.length uc, v, h', ho, hlg, r, ⟨r.c, z, r.base, (f).es⟩⟩ : StA) ⟨by simp only []; omega, hdk, hsr, hsv, by simp only []; omega, hsu.symm⟩ (by repeat (first | exact Fsub.nil | refine Fsub.cons rfl ?_)) (Hsub.of_picks inferInstance)
    ·rw [if_neg hz] at hsu
     repeat' (first | refine runS ?_ | refine lAN (t := 34) r.c.enc r.c.enc rfl ?_ | refine WX.callQ rfl hsi rfl ?_ | fail)
     exact D.jmpB (⟨w', b3, b5, i + 1, .slice up rs.length uc, v, h', ho, hlg, r, ⟨r.c, (f).sn, r.base, (f).es⟩⟩ : StA) ⟨by simp only []; omega, hdk, hsr, hsv, by simp only []; omega, hsu.symm⟩ (by repeat (first | exact Fsub.nil | refine Fsub.cons rfl ?_)) (Hsub.of_picks inferInstance)
  ·have hie : i = rs.length := by omega
   have hff : f = rbF nd rs := by rw [hf, hie]; unfold rbK; rw [take_length]
   have hre := crestore_ct dc rg nd (f).x (f).sn (f).bs hsv.rs (by omega)
   try refine runS ?_
   refine W.mixN 8 (List.replicate 17 true ++ [false]) [LgBk b cb dc rg nd d w' true, CfBk b3 (f).x] Tryz.mix (by kernel_rfl) ?_
   repeat' (first | refine runS ?_ | refine lAN (t := 34) (f).x.enc (f).x.enc rfl ?_ | fail)
   refine WX.call rfl hre rfl ?_
   rintro _ _ ⟨cb', v9, hv9, rfl, rfl, hs9⟩
   simp only [ca, na]
   try refine runS ?_
   refine I.st ?_
   refine stN [.pointer (some ⟨cb, 0, none⟩), .int .i64 dc, .int .i64 rg, .int .i64 nd, .pointer (some ⟨d, 0, none⟩), .pointer (some ⟨w', 0, none⟩), .bool true] [.pointer (some ⟨cb', 0, none⟩), .int .i64 dc, .int .i64 rg, .int .i64 nd, .pointer (some ⟨d, 0, none⟩), .pointer (some ⟨w', 0, none⟩), .bool true] rfl rfl ?_
   try refine runS ?_
   rw [← hff]
   first
    | exact D.finE [LgBk b cb' dc rg nd d w' true, CsBk cb' (CS.restore dc rg nd (f).x (f).sn (f).bs (f).es) v9, hv9, WBk w' d seg torn, h'] _ rfl ⟨rfl, cb', w', h', v9, hv9, rfl, hs9, hdk⟩
    | exact D.fin0 [LgBk b cb' dc rg nd d w' true, CsBk cb' (CS.restore dc rg nd (f).x (f).sn (f).bs (f).es) v9, hv9, WBk w' d seg torn, h'] _ rfl ⟨rfl, cb', w', h', v9, hv9, rfl, hs9, hdk⟩
 ·rintro ⟨w', b3, b5, i, u, v, h', ho, hlg, pr, f⟩ ⟨hi, hdk, hsr, hsv, hel, hf⟩
  simp only [] at hi hdk hsr hsv hel hf ⊢
  have hrr := hsr.rs
  obtain ⟨up, uc, rfl⟩ := hrr.len
  have hr1 := hsv.rs
  try refine runS ?_
  by_cases hlt : i < rs.length
  ·obtain ⟨r, hr⟩ : ∃ r, rs[i]? = some r := ⟨_, List.getElem?_eq_getElem hlt⟩
   have hsu := rbK_succ (nd := nd) hr
   rw [← hf] at hsu
   rcases hrs r (mem_of_getElem? hr) with ⟨k1, hre⟩ | ⟨k2, hrc⟩
   ·have hst : rbStep nd (f) r = ⟨(f).x, (f).sn, (f).bs, (f).es ++ [r.e]⟩ := if_pos k1
    rw [hst] at hsu
    repeat' (first | refine runS ?_ | refine WX.loadEW rfl hrr hr rfl rfl ?_ | refine lAN (t := 43) r.enc r.e.enc rfl ?_ | refine sGW (pr).enc r.enc rfl rfl ?_ | fail)
    refine I.bs ?_
    refine WX.lit (ys := [r.e]) rfl rfl rfl rfl rfl rfl (by decide) rfl (fun v2 h2 hs2 => ?_)
    skip
    refine WX.app rfl rfl hsv hs2.rs rfl rfl (by decide) (by simp only [length_cons, length_nil]; omega) rfl (fun v3 h3 hs3 => ?_)
    try refine runS ?_
    exact D.jmpB (⟨w', b3, b5, i + 1, .slice up rs.length uc, v3, h', ho, h3, r, ⟨(f).x, (f).sn, (f).bs, (f).es ++ [r.e]⟩⟩ : StA) ⟨⟨by simp only []; omega, hdk, hsr, hs3, by simp only [length_append, length_cons, length_nil]; omega, hsu.symm⟩, by simp only []; omega⟩ (by repeat (first | exact Fsub.nil | refine Fsub.cons rfl ?_)) (Hsub.of_picks inferInstance)
   ·have hst : rbStep nd (f) r = ⟨r.c, if 0 < sinceO (some (chOf r.c)) nd then sinceO (some (chOf r.c)) nd else (f).sn, r.base, (f).es⟩ := if_neg (by omega)
    rw [hst] at hsu
    obtain ⟨c, hcx, okc, hch⟩ := rightC_ch hrc
    have hsi := sinceO_ct (ChO.some okc) nd
    rw [show cfO (some c) = r.c from hcx.symm] at hsi
    rw [hch] at hsu
    generalize sinceO (some c) nd = z at hsi hsu
    repeat' (first | refine runS ?_ | refine WX.loadEW rfl hrr hr rfl rfl ?_ | refine sGW (pr).enc r.enc rfl rfl ?_ | fail)
    refine W.mixN 8 [true, true, true, true, false] [RcBk b5 r] Tryz.mix (by kernel_rfl) ?_
    repeat' (first | refine runS ?_ | refine lAN (t := 34) r.enc r.c.enc rfl ?_ | refine sGW (f).x.enc r.c.enc rfl rfl ?_ | fail)
    refine W.quiet Tryz.mix (by kernel_rfl) ?_
    by_cases hz : 0 < z
    ·rw [if_pos hz] at hsu
     repeat' (first | refine runS ?_ | refine lAN (t := 34) r.c.enc r.c.enc rfl ?_ | refine WX.callQ rfl hsi rfl ?_ | fail)
     exact D.jmpB (⟨w', b3, b5, i + 1, .slice up rs.length uc, v, h', ho, hlg, r, ⟨r.c, z, r.base, (f).es⟩⟩ : StA) ⟨⟨by simp only []; omega, hdk, hsr, hsv, by simp only []; omega, hsu.symm⟩, by simp only []; omega⟩ (by repeat (first | exact Fsub.nil | refine Fsub.cons rfl ?_)) (Hsub.of_picks inferInstance)
    ·rw [if_neg hz] at hsu
     repeat' (first | refine runS ?_ | refine lAN (t := 34) r.c.enc r.c.enc rfl ?_ | refine WX.callQ rfl hsi rfl ?_ | fail)
     exact D.jmpB (⟨w', b3, b5, i + 1, .slice up rs.length uc, v, h', ho, hlg, r, ⟨r.c, (f).sn, r.base, (f).es⟩⟩ : StA) ⟨⟨by simp only []; omega, hdk, hsr, hsv, by simp only []; omega, hsu.symm⟩, by simp only []; omega⟩ (by repeat (first | exact Fsub.nil | refine Fsub.cons rfl ?_)) (Hsub.of_picks inferInstance)
  ·have hie : i = rs.length := by omega
   have hff : f = rbF nd rs := by rw [hf, hie]; unfold rbK; rw [take_length]
   have hre := crestore_ct dc rg nd (f).x (f).sn (f).bs hsv.rs (by omega)
   try refine runS ?_
   refine W.mixN 8 (List.replicate 17 true ++ [false]) [LgBk b cb dc rg nd d w' true, CfBk b3 (f).x] Tryz.mix (by kernel_rfl) ?_
   repeat' (first | refine runS ?_ | refine lAN (t := 34) (f).x.enc (f).x.enc rfl ?_ | fail)
   refine WX.call rfl hre rfl ?_
   rintro _ _ ⟨cb', v9, hv9, rfl, rfl, hs9⟩
   simp only [ca, na]
   try refine runS ?_
   refine I.st ?_
   refine stN [.pointer (some ⟨cb, 0, none⟩), .int .i64 dc, .int .i64 rg, .int .i64 nd, .pointer (some ⟨d, 0, none⟩), .pointer (some ⟨w', 0, none⟩), .bool true] [.pointer (some ⟨cb', 0, none⟩), .int .i64 dc, .int .i64 rg, .int .i64 nd, .pointer (some ⟨d, 0, none⟩), .pointer (some ⟨w', 0, none⟩), .bool true] rfl rfl ?_
   try refine runS ?_
   rw [← hff]
   first
    | exact D.finE [LgBk b cb' dc rg nd d w' true, CsBk cb' (CS.restore dc rg nd (f).x (f).sn (f).bs (f).es) v9, hv9, WBk w' d seg torn, h'] _ rfl ⟨rfl, cb', w', h', v9, hv9, rfl, hs9, hdk⟩
    | exact D.fin0 [LgBk b cb' dc rg nd d w' true, CsBk cb' (CS.restore dc rg nd (f).x (f).sn (f).bs (f).es) v9, hv9, WBk w' d seg torn, h'] _ rfl ⟨rfl, cb', w', h', v9, hv9, rfl, hs9, hdk⟩
theorem dchainD_ct (dc rg sq : Int) : Ct prog 208 [.agg (List.toArray [.int .i64 dc, .int .i64 rg, .int .i64 sq])] [] (fun r H' => r = .bool (decide (ChainD dc rg)) ∧ H' = []) := by
 refine Ct.mk' func208 rfl rfl rfl (fun g R => ?_)
 try simp only [ca]
 simp only [na]
 by_cases h0 : 0 ≤ dc
 ·by_cases h1 : dc < 3
  ·by_cases h2 : 0 ≤ rg
   ·repeat' (first | refine run ?_ | refine bx rfl (fun _ => ?_) | fail)
    exact D.fin1 [] _ rfl rfl ⟨by simp [h0, h1, h2], rfl⟩
   ·repeat' (first | refine run ?_ | refine bx rfl (fun _ => ?_) | fail)
    exact D.fin1 [] _ rfl rfl ⟨by simp [h0, h1, h2], rfl⟩
  ·repeat' (first | refine run ?_ | refine bx rfl (fun _ => ?_) | fail)
   exact D.fin1 [] _ rfl rfl ⟨by simp [h0, h1], rfl⟩
 ·repeat' (first | refine run ?_ | refine bx rfl (fun _ => ?_) | fail)
  exact D.fin1 [] _ rfl rfl ⟨by simp [h0], rfl⟩
theorem drightS_ct (ct dc rg : Int) : Ct prog 206 [.agg (List.toArray [.int .i64 ct, .int .i64 dc, .int .i64 rg])] [] (fun r H' => r = .bool (decide (RightS ct dc rg)) ∧ H' = []) := by
 refine Ct.mk' func206 rfl rfl rfl (fun g R => ?_)
 try simp only [ca]
 simp only [na]
 by_cases h0 : 1 ≤ ct
 ·by_cases h1 : ct ≤ 1099511627776
  ·by_cases h2 : 0 ≤ dc
   ·by_cases h3 : dc < 3
    ·by_cases h4 : 0 ≤ rg
     ·repeat' (first | refine run ?_ | refine bx rfl (fun _ => ?_) | fail)
      exact D.fin1 [] _ rfl rfl ⟨by simp [h0, h1, h2, h3, h4], rfl⟩
     ·repeat' (first | refine run ?_ | refine bx rfl (fun _ => ?_) | fail)
      exact D.fin1 [] _ rfl rfl ⟨by simp [h0, h1, h2, h3, h4], rfl⟩
    ·repeat' (first | refine run ?_ | refine bx rfl (fun _ => ?_) | fail)
     exact D.fin1 [] _ rfl rfl ⟨by simp [h0, h1, h2, h3], rfl⟩
   ·repeat' (first | refine run ?_ | refine bx rfl (fun _ => ?_) | fail)
    exact D.fin1 [] _ rfl rfl ⟨by simp [h0, h1, h2], rfl⟩
  ·repeat' (first | refine run ?_ | refine bx rfl (fun _ => ?_) | fail)
   exact D.fin1 [] _ rfl rfl ⟨by simp [h0, h1], rfl⟩
 ·repeat' (first | refine run ?_ | refine bx rfl (fun _ => ?_) | fail)
  exact D.fin1 [] _ rfl rfl ⟨by simp [h0], rfl⟩
theorem drightV_ct (v : V9) : Ct prog 209 [.agg (List.toArray v.enc)] [] (fun r H' => r = .bool (decide (RightV v)) ∧ H' = []) := by
 refine Ct.mk' func209 rfl rfl rfl (fun g R => ?_)
 try simp only [ca]
 simp only [na]
 repeat' (first | refine run ?_ | refine bx rfl (fun _ => ?_) | fail)
 rename_i b
 refine W.hp (H' := [VcBk b v, R]) rfl ?_
 refine W.loop (α := Nat) (fun d => d ≤ 3 ∧ ∀ i, i < 3 * d → 0 ≤ v.at i ∧ v.at i ≤ MC) (fun d => [(1, .pointer (some ⟨b, 0, none⟩)), (3, .int .i64 (d : Int))]) (fun _ => [VcBk b v, R]) (fun d => 3 - d) 0 ⟨Nat.zero_le _, fun i hi => absurd hi (Nat.not_lt_zero _)⟩ (by repeat (first | exact Fsub.nil | refine Fsub.cons rfl ?_)) (Hsub.of_picks inferInstance) ?_
 rintro d ⟨hd, hall⟩
 by_cases hlt : d < 3
 ·try refine run ?_
  refine W.loop (α := Nat) (fun r => r ≤ 3 ∧ ∀ i, i < 3 * d + r → 0 ≤ v.at i ∧ v.at i ≤ MC) (fun r => [(1, .pointer (some ⟨b, 0, none⟩)), (3, .int .i64 (d : Int)), (4, .int .i64 (r : Int))]) (fun _ => [VcBk b v, R]) (fun r => 3 - r) 0 ⟨Nat.zero_le _, hall⟩ (by repeat (first | exact Fsub.nil | refine Fsub.cons rfl ?_)) (Hsub.of_picks inferInstance) ?_
  rintro r ⟨hr, hall2⟩
  by_cases hlr : r < 3
  ·have hk : 3 * d + r < 9 := by omega
   generalize hx : v.at (3 * d + r) = x
   have g1 : v.enc[0 + ((d : Nat) : Int).toNat * 3 + ((r : Nat) : Int).toNat * 1]? = some (.int .i64 x) := by rw [show 0 + ((d : Nat) : Int).toNat * 3 + ((r : Nat) : Int).toNat * 1 = 3 * d + r by show 0 + d * 3 + r * 1 = _; omega, V9.enc_at _ hk, hx]
   by_cases hg : 0 ≤ x ∧ x ≤ 1099511627776
   ·obtain ⟨m1, m2⟩ := hg
    repeat' (first | refine run ?_ | refine lN v.enc _ rfl ?_ (hc := g1) | fail)
    refine D.rd (r + 1) ⟨by omega, fun i hi => ?_⟩ (by omega)
    rcases Nat.lt_or_ge i (3 * d + r) with h | h
    ·exact hall2 i h
    ·obtain rfl : i = 3 * d + r := by omega
     rw [hx]; exact ⟨m1, m2⟩
   ·have hno : ¬ RightV v := fun h => hg (by have := h (3 * d + r) (by omega); rw [hx] at this; exact this)
    by_cases m1 : x < 0
    ·repeat' (first | refine run ?_ | refine lN v.enc _ rfl ?_ (hc := g1) | fail)
     exact D.fin1 [] _ rfl rfl ⟨by rw [decide_eq_false hno], rfl⟩
    ·have m2 : 1099511627776 < x := by omega
     repeat' (first | refine run ?_ | refine lN v.enc _ rfl ?_ (hc := g1) | fail)
     exact D.fin1 [] _ rfl rfl ⟨by rw [decide_eq_false hno], rfl⟩
  ·obtain rfl : r = 3 := by omega
   try refine run ?_
   exact D.rd (d + 1) ⟨by omega, fun i hi => hall2 i (by omega)⟩ (by omega)
 ·obtain rfl : d = 3 := by omega
  try refine run ?_
  exact D.fin1 [] _ rfl rfl ⟨by rw [decide_eq_true (show RightV v from hall)], rfl⟩
abbrev DrBk (b : Nat) (dc rg sq : Int) : Hp := [(b, .cells (List.toArray [.int .i64 dc, .int .i64 rg, .int .i64 sq]) 39 (0, 0))]
set_option maxRecDepth 4000 in
theorem dwithV_ct (v : V9) (dc rg sq : Int) : Ct prog 207 [.agg (List.toArray v.enc), .agg (List.toArray [.int .i64 dc, .int .i64 rg, .int .i64 sq])] [] (fun r H' => r = .agg (List.toArray (withD v dc rg sq).enc) ∧ H' = []) := by
 have hch := dchainD_ct dc rg sq
 refine Ct.mk' func207 rfl rfl rfl (fun g R => ?_)
 try simp only [ca]
 simp only [na]
 by_cases hD : ChainD dc rg
 ·rw [decide_eq_true hD] at hch
  rw [show withD v dc rg sq = _ from if_pos hD]
  obtain ⟨c1, c2, c3, c4⟩ := hD
  have hk : dc.toNat * 3 + rg.toNat < 9 := by omega
  have e0 : 0 + dc.toNat * 3 + rg.toNat * 1 = dc.toNat * 3 + rg.toNat := by omega
  have g1 : v.enc[0 + dc.toNat * 3 + rg.toNat * 1]? = some (.int .i64 (v.at (dc.toNat * 3 + rg.toNat))) := by rw [e0, V9.enc_at _ hk]
  generalize hw : v.put (dc.toNat * 3 + rg.toNat) (mx (v.at (dc.toNat * 3 + rg.toNat)) sq) = o
  have g3 : v.enc.set (0 + dc.toNat * 3 + rg.toNat * 1) (.int .i64 (mx (v.at (dc.toNat * 3 + rg.toNat)) sq)) = o.enc := by rw [e0, V9.enc_put _ hk, hw]
  have g4 : Nat.blt (0 + dc.toNat * 3 + rg.toNat * 1) v.enc.length = true := Nat.ble_eq_true_of_le (by rw [e0]; show dc.toNat * 3 + rg.toNat + 1 ≤ 9; omega)
  repeat' (first | refine run ?_ | refine bx rfl (fun _ => ?_) | refine al (fun _ => ?_) | refine WX.callQ rfl hch rfl ?_ | fail)
  rename_i b2 b3 b4
  refine W.hp (H' := [VcBk b4 V9.z, DrBk b3 dc rg sq, VcBk b2 v, R]) rfl ?_
  refine W.mixN 8 (List.replicate 16 true) [DrBk b3 dc rg sq, VcBk b2 v] Tryz.mix (by kernel_rfl) ?_
  repeat' (first | refine run ?_ | refine lN v.enc _ rfl ?_ (hc := g1) | fail)
  refine I.st ?_
  refine stN v.enc o.enc rfl rfl ?_ (e := g3) (hb := g4)
  try refine run ?_
  exact D.finR1 [] _ rfl (.cellA rfl rfl .nil) ⟨rfl, rfl⟩
 ·rw [decide_eq_false hD] at hch
  rw [show withD v dc rg sq = _ from if_neg hD]
  repeat' (first | refine run ?_ | refine bx rfl (fun _ => ?_) | refine al (fun _ => ?_) | refine WX.callQ rfl hch rfl ?_ | fail)
  exact D.finR1 [] _ rfl (.cellA rfl rfl .nil) ⟨rfl, rfl⟩
def mx0 (i j : Int) : Int := mx (mx 0 i) j
def twoK (a b : V9) (k : Nat) : V9 := V9.tab fun i => if i < k then mx0 (a.at i) (b.at i) else 0
def twoV (a b : V9) : V9 := twoK a b 9
theorem twoK_0 (a b : V9) : twoK a b 0 = V9.z := by unfold twoK; exact (V9.tab_congr fun i _ => if_neg (Nat.not_lt_zero _)).trans rfl
theorem twoK_put (a b : V9) {k : Nat} (h : k < 9) : (twoK a b k).put k (mx0 (a.at k) (b.at k)) = twoK a b (k + 1) := by
 unfold V9.put
 show V9.tab _ = V9.tab _
 refine V9.tab_congr fun i hi => ?_
 unfold upN twoK
 by_cases e : i = k
 ·subst e; rw [if_pos rfl, if_pos (by omega)]
 ·rw [if_neg e, V9.tab_at _ hi]
  by_cases h2 : i < k
  ·rw [if_pos h2, if_pos (by omega)]
  ·rw [if_neg h2, if_neg (by omega)]
set_option maxRecDepth 4000 in
theorem dtwo_ct (a b : V9) : Ct prog 163 [.agg (List.toArray a.enc), .agg (List.toArray b.enc)] [] (fun r H' => r = .agg (List.toArray (twoV a b).enc) ∧ H' = []) := by
 refine Ct.mk' func163 rfl rfl rfl (fun g R => ?_)
 try simp only [ca]
 simp only [na]
 repeat' (first | refine run ?_ | refine bx rfl (fun _ => ?_) | refine al (fun _ => ?_) | fail)
 rename_i b2 b3 b4 b5
 refine W.hp (H' := [VcBk b5 (twoK a b (3 * 0)), VcBk b4 V9.z, VcBk b3 b, VcBk b2 a, R]) (by rw [twoK_0]; rfl) ?_
 refine W.loop (α := Nat) (fun d => d ≤ 3) (fun d => [(2, .pointer (some ⟨b2, 0, none⟩)), (3, .pointer (some ⟨b3, 0, none⟩)), (4, .pointer (some ⟨b4, 0, none⟩)), (5, .pointer (some ⟨b5, 0, none⟩)), (6, .int .i64 (d : Int))]) (fun d => [VcBk b5 (twoK a b (3 * d)), VcBk b4 V9.z, VcBk b3 b, VcBk b2 a, R]) (fun d => 3 - d) 0 (Nat.zero_le _) (by repeat (first | exact Fsub.nil | refine Fsub.cons rfl ?_)) (Hsub.of_picks inferInstance) ?_
 intro d hd
 by_cases hld : d < 3
 ·try refine run ?_
  refine W.loop (α := Nat) (fun r => r ≤ 3) (fun r => [(2, .pointer (some ⟨b2, 0, none⟩)), (3, .pointer (some ⟨b3, 0, none⟩)), (4, .pointer (some ⟨b4, 0, none⟩)), (5, .pointer (some ⟨b5, 0, none⟩)), (6, .int .i64 (d : Int)), (7, .int .i64 (r : Int))]) (fun r => [VcBk b5 (twoK a b (3 * d + r)), VcBk b4 V9.z, VcBk b3 b, VcBk b2 a, R]) (fun r => 3 - r) 0 (Nat.zero_le _) (by repeat (first | exact Fsub.nil | refine Fsub.cons rfl ?_)) (Hsub.of_picks inferInstance) ?_
  intro r hr
  by_cases hlr : r < 3
  ·have hk : 3 * d + r < 9 := by omega
   have e0 : 0 + ((d : Nat) : Int).toNat * 3 + ((r : Nat) : Int).toNat * 1 = 3 * d + r := by show 0 + d * 3 + r * 1 = _; omega
   have g1 : a.enc[0 + ((d : Nat) : Int).toNat * 3 + ((r : Nat) : Int).toNat * 1]? = some (.int .i64 (a.at (3 * d + r))) := by rw [e0, V9.enc_at _ hk]
   have g2 : b.enc[0 + ((d : Nat) : Int).toNat * 3 + ((r : Nat) : Int).toNat * 1]? = some (.int .i64 (b.at (3 * d + r))) := by rw [e0, V9.enc_at _ hk]
   have g3 : (twoK a b (3 * d + r)).enc.set (0 + ((d : Nat) : Int).toNat * 3 + ((r : Nat) : Int).toNat * 1) (.int .i64 (mx0 (a.at (3 * d + r)) (b.at (3 * d + r)))) = (twoK a b (3 * d + (r + 1))).enc := by rw [e0, V9.enc_put _ hk, twoK_put _ _ hk]; rfl
   have g4 : Nat.blt (0 + ((d : Nat) : Int).toNat * 3 + ((r : Nat) : Int).toNat * 1) (twoK a b (3 * d + r)).enc.length = true := Nat.ble_eq_true_of_le (by rw [e0]; show 3 * d + r + 1 ≤ 9; omega)
   try refine run ?_
   refine W.mixN 8 (List.replicate 15 true) [VcBk b3 b, VcBk b2 a] Tryz.mix (by kernel_rfl) ?_
   repeat' (first | refine run ?_ | refine lN a.enc _ rfl ?_ (hc := g1) | refine lN b.enc _ rfl ?_ (hc := g2) | refine WX.max3 rfl rfl rfl rfl ?_ | fail)
   refine I.st ?_
   refine stN (twoK a b (3 * d + r)).enc (twoK a b (3 * d + (r + 1))).enc rfl rfl ?_ (e := g3) (hb := g4)
   try refine run ?_
   exact D.rd (r + 1) (by omega) (by omega)
  ·obtain rfl : r = 3 := by omega
   try refine run ?_
   exact D.rd (d + 1) (by omega) (by omega)
 ·obtain rfl : d = 3 := by omega
  rw [show twoK a b (3 * 3) = twoV a b from rfl]
  generalize twoV a b = o
  try refine run ?_
  exact D.finR1 [] _ rfl (.cellA rfl rfl .nil) ⟨rfl, rfl⟩
def dpastV (es : List Ent) : V9 := es.foldl (fun o e => withD (twoV o e.dp) e.dc e.rg e.sq) V9.z
theorem dpastV_take {es : List Ent} {i : Nat} {x : Ent} (h : es[i]? = some x) : dpastV (es.take (i + 1)) = withD (twoV (dpastV (es.take i)) x.dp) x.dc x.rg x.sq := by
 unfold dpastV
 rw [take_add_one, h, foldl_append]; rfl
set_option maxRecDepth 4000 in
theorem dpast_ct {es : List Ent} {u : Value} {h : Hp} (hs : Rs es u h) (hl : es.length ≤ 1000000) :
  Ct prog 164 [u] [h] (fun r H' => r = .agg (List.toArray (dpastV es).enc) ∧ H' = [h]) := by
 obtain ⟨up, uc, rfl⟩ := hs.len
 refine Ct.mk' func164 rfl rfl rfl (fun g R => ?_)
 try simp only [ca]
 simp only [na]
 repeat' (first | refine runS ?_ | refine al (fun _ => ?_) | fail)
 rename_i b2 b3
 refine W.hp (H' := [VcBk b3 (dpastV (es.take 0)), VcBk b2 V9.z, h, R]) rfl ?_
 refine W.loop (α := Nat) (fun i => i ≤ es.length) (fun i => [(0, .slice up es.length uc), (2, .pointer (some ⟨b2, 0, none⟩)), (3, .pointer (some ⟨b3, 0, none⟩)), (4, .int .i64 (i : Int))]) (fun i => [VcBk b3 (dpastV (es.take i)), VcBk b2 V9.z, h, R]) (fun i => es.length - i) 0 (Nat.zero_le _) (by repeat (first | exact Fsub.nil | refine Fsub.cons rfl ?_)) (Hsub.of_picks inferInstance) ?_
 intro i hi
 by_cases hlt : i < es.length
 ·obtain ⟨x, hx⟩ : ∃ x, es[i]? = some x := ⟨_, List.getElem?_eq_getElem hlt⟩
  have hnx := dpastV_take hx
  generalize dpastV (es.take i) = o at hnx ⊢
  have ht := dtwo_ct o x.dp
  have hw := dwithV_ct (twoV o x.dp) x.dc x.rg x.sq
  rw [← hnx] at hw
  try refine runS ?_
  refine W.mixN 8 [true, true, true, true, true, true, false, true, true, true, true, true, false] [VcBk b3 o, h] Tryz.mix (by kernel_rfl) ?_
  repeat' (first | refine runS ?_ | refine lAN o.enc o.enc rfl ?_ | refine WX.loadEA (t := 37) (us := x.dp.enc) rfl hs hx rfl rfl rfl rfl ?_ | refine WX.loadEA (t := 39) (us := [.int .i64 x.dc, .int .i64 x.rg, .int .i64 x.sq]) rfl hs hx rfl rfl rfl rfl ?_ | refine WX.callQ rfl ht rfl ?_ | refine WX.callQ rfl hw rfl ?_ | refine sGW o.enc (dpastV (es.take (i + 1))).enc rfl rfl ?_ | fail)
  exact D.rd (i + 1) (by omega) (by omega)
 ·obtain rfl : i = es.length := by omega
  rw [take_length]
  generalize dpastV es = o
  repeat' (first | refine runS ?_ | refine lAN o.enc o.enc rfl ?_ | refine sGW V9.z.enc o.enc rfl rfl ?_ | fail)
  exact D.finR1 [h] _ rfl (.cellA rfl rfl .nil) ⟨rfl, rfl⟩
set_option maxRecDepth 4000 in
theorem dpart_ct (v : V9) (rg : Int) :
  Ct prog 161 [.agg (List.toArray v.enc), .int .i64 rg] [] (fun r H' => r = .agg (List.toArray (partV v rg).enc) ∧ H' = []) := by
 refine Ct.mk' func161 rfl rfl rfl (fun g R => ?_)
 try simp only [ca]
 simp only [na]
 repeat' (first | refine runS ?_ | refine bx rfl (fun _ => ?_) | refine al (fun _ => ?_) | fail)
 rename_i b2 b4 b5
 by_cases hrg : 0 ≤ rg ∧ rg < 3
 ·obtain ⟨r1, r2⟩ := hrg
  rw [show partV v rg = partK v rg.toNat 3 by unfold partV; rw [if_pos ⟨r1, r2⟩]; simp [partK]]
  refine W.hp (H' := [ClBk b5 (partK v rg.toNat 0), ClBk b4 V3.z, VcBk b2 v, R]) rfl ?_
  refine W.loop (α := Nat) (fun k => k ≤ 3) (fun k => [(1, .int .i64 rg), (2, .pointer (some ⟨b2, 0, none⟩)), (4, .pointer (some ⟨b4, 0, none⟩)), (5, .pointer (some ⟨b5, 0, none⟩)), (6, .int .i64 (k : Int))]) (fun k => [ClBk b5 (partK v rg.toNat k), ClBk b4 V3.z, VcBk b2 v, R]) (fun k => 3 - k) 0 (Nat.zero_le _) (by repeat (first | exact Fsub.nil | refine Fsub.cons rfl ?_)) (Hsub.of_picks inferInstance) ?_
  intro k hk
  by_cases hlt : k < 3
  ·have hb : 3 * k + rg.toNat < 9 := by omega
   have g1 : v.enc[0 + ((k : Nat) : Int).toNat * 3 + rg.toNat * 1]? = some (.int .i64 (v.at (3 * k + rg.toNat))) := by rw [show 0 + ((k : Nat) : Int).toNat * 3 + rg.toNat * 1 = 3 * k + rg.toNat by show 0 + k * 3 + rg.toNat * 1 = _; omega, V9.enc_at _ hb]
   have g3 : (partK v rg.toNat k).enc.set (0 + ((k : Nat) : Int).toNat * 1) (.int .i64 (v.at (3 * k + rg.toNat))) = (partK v rg.toNat (k + 1)).enc := by rw [show 0 + ((k : Nat) : Int).toNat * 1 = k by show 0 + k * 1 = k; omega, V3.enc_put _ hlt, partK_put _ _ hlt]
   have g4 : Nat.blt (0 + ((k : Nat) : Int).toNat * 1) (partK v rg.toNat k).enc.length = true := Nat.ble_eq_true_of_le (by show 0 + k * 1 + 1 ≤ 3; omega)
   repeat' (first | refine runS ?_ | refine lN v.enc _ rfl ?_ (hc := g1) | fail)
   refine I.st ?_
   refine stN (partK v rg.toNat k).enc (partK v rg.toNat (k + 1)).enc rfl rfl ?_ (e := g3) (hb := g4)
   try refine runS ?_
   exact D.rd (k + 1) (by omega) (by omega)
  ·obtain rfl : k = 3 := by omega
   generalize partK v rg.toNat 3 = o
   repeat' (first | refine runS ?_ | refine lAN o.enc o.enc rfl ?_ | refine sGW V3.z.enc o.enc rfl rfl ?_ | fail)
   exact D.finR1 [] _ rfl (.cellA rfl rfl .nil) ⟨rfl, rfl⟩
 ·rw [show partV v rg = V3.z from if_neg hrg]
  refine W.hp (H' := [ClBk b5 V3.z, ClBk b4 V3.z, VcBk b2 v, R]) rfl ?_
  by_cases h0 : rg < 0
  ·refine W.loop (α := Nat) (fun k => k ≤ 0) (fun k => [(1, .int .i64 rg), (2, .pointer (some ⟨b2, 0, none⟩)), (4, .pointer (some ⟨b4, 0, none⟩)), (5, .pointer (some ⟨b5, 0, none⟩)), (6, .int .i64 (k : Int))]) (fun k => [ClBk b5 V3.z, ClBk b4 V3.z, VcBk b2 v, R]) (fun k => 3 - k) 0 (Nat.zero_le _) (by repeat (first | exact Fsub.nil | refine Fsub.cons rfl ?_)) (Hsub.of_picks inferInstance) ?_
   intro k hk
   obtain rfl : k = 0 := by omega
   repeat' (first | refine runS ?_ | refine lAN V3.z.enc V3.z.enc rfl ?_ | refine sGW V3.z.enc V3.z.enc rfl rfl ?_ | fail)
   exact D.finR1 [] _ rfl (.cellA rfl rfl .nil) ⟨rfl, rfl⟩
  ·have h3 : 3 ≤ rg := by omega
   refine W.loop (α := Nat) (fun k => k ≤ 0) (fun k => [(1, .int .i64 rg), (2, .pointer (some ⟨b2, 0, none⟩)), (4, .pointer (some ⟨b4, 0, none⟩)), (5, .pointer (some ⟨b5, 0, none⟩)), (6, .int .i64 (k : Int))]) (fun k => [ClBk b5 V3.z, ClBk b4 V3.z, VcBk b2 v, R]) (fun k => 3 - k) 0 (Nat.zero_le _) (by repeat (first | exact Fsub.nil | refine Fsub.cons rfl ?_)) (Hsub.of_picks inferInstance) ?_
   intro k hk
   obtain rfl : k = 0 := by omega
   repeat' (first | refine runS ?_ | refine lAN V3.z.enc V3.z.enc rfl ?_ | refine sGW V3.z.enc V3.z.enc rfl rfl ?_ | fail)
   exact D.finR1 [] _ rfl (.cellA rfl rfl .nil) ⟨rfl, rfl⟩
theorem dcovC_ct (a b : V3) :
  Ct prog 160 [.agg (List.toArray a.enc), .agg (List.toArray b.enc)] [] (fun r H' => r = .bool (decide (CovC a b)) ∧ H' = []) := by
 refine Ct.mk' func160 rfl rfl rfl (fun g R => ?_)
 try simp only [ca]
 simp only [na]
 by_cases h0 : b.a ≤ a.a
 ·by_cases h1 : b.b ≤ a.b
  ·repeat' (first | refine run ?_ | refine bx rfl (fun _ => ?_) | fail)
   exact D.fin1 [] _ rfl rfl ⟨by simp [h0, h1], rfl⟩
  ·repeat' (first | refine run ?_ | refine bx rfl (fun _ => ?_) | fail)
   exact D.fin1 [] _ rfl rfl ⟨by simp [h0, h1], rfl⟩
 ·repeat' (first | refine run ?_ | refine bx rfl (fun _ => ?_) | fail)
  exact D.fin1 [] _ rfl rfl ⟨by simp [h0], rfl⟩
set_option maxRecDepth 4000 in
theorem dcolumn_ct (rg : Int) {es : List Ent} {u : Value} {h : Hp} (hs : Rs es u h) (hl : es.length ≤ 1000000) :
  Ct prog 205 [.int .i64 rg, u] [h] (fun r H' => r = .agg (List.toArray (colF rg es).enc) ∧ H' = [h]) := by
 obtain ⟨up, uc, rfl⟩ := hs.len
 refine Ct.mk' func205 rfl rfl rfl (fun g R => ?_)
 try simp only [ca]
 simp only [na]
 repeat' (first | refine runS ?_ | refine al (fun _ => ?_) | fail)
 rename_i b4 b5
 refine W.hp (H' := [ClBk b5 (colF rg (es.take 0)), ClBk b4 V3.z, h, R]) rfl ?_
 refine W.loop (α := Nat) (fun i => i ≤ es.length) (fun i => [(0, .int .i64 rg), (1, .slice up es.length uc), (4, .pointer (some ⟨b4, 0, none⟩)), (5, .pointer (some ⟨b5, 0, none⟩)), (6, .int .i64 (i : Int))]) (fun i => [ClBk b5 (colF rg (es.take i)), ClBk b4 V3.z, h, R]) (fun i => es.length - i) 0 (Nat.zero_le _) (by repeat (first | exact Fsub.nil | refine Fsub.cons rfl ?_)) (Hsub.of_picks inferInstance) ?_
 intro i hi
 by_cases hlt : i < es.length
 ·obtain ⟨x, hx⟩ : ∃ x, es[i]? = some x := ⟨_, List.getElem?_eq_getElem hlt⟩
  have hnx := colF_take (rg := rg) hx
  generalize colF rg (es.take i) = o at hnx ⊢
  have hch := dchainD_ct x.dc x.rg x.sq
  by_cases hg : x.rg = rg
  ·by_cases hD : ChainD x.dc x.rg
   ·rw [decide_eq_true hD] at hch
    rw [show colStep rg o x = _ from if_pos ⟨hg, hg ▸ hD⟩] at hnx
    obtain ⟨c1, c2, c3, c4⟩ := hD
    have hk : x.dc.toNat < 3 := by omega
    have g1 : o.enc[0 + x.dc.toNat * 1]? = some (.int .i64 (o.at x.dc.toNat)) := by rw [show 0 + x.dc.toNat * 1 = x.dc.toNat by omega, V3.enc_at _ hk]
    have g3 : o.enc.set (0 + x.dc.toNat * 1) (.int .i64 (mx (o.at x.dc.toNat) x.sq)) = (colF rg (es.take (i + 1))).enc := by rw [show 0 + x.dc.toNat * 1 = x.dc.toNat by omega, V3.enc_put _ hk, hnx]
    have g4 : Nat.blt (0 + x.dc.toNat * 1) o.enc.length = true := Nat.ble_eq_true_of_le (by show 0 + x.dc.toNat * 1 + 1 ≤ 3; omega)
    repeat' (first | refine runS ?_ | refine al (fun _ => ?_) | refine WX.loadEA (t := 39) (us := [.int .i64 x.dc, .int .i64 x.rg, .int .i64 x.sq]) rfl hs hx rfl rfl rfl rfl ?_ | refine lAN (t := 39) [.int .i64 x.dc, .int .i64 x.rg, .int .i64 x.sq] [.int .i64 x.dc, .int .i64 x.rg, .int .i64 x.sq] rfl ?_ | refine sGW [.int .i64 0, .int .i64 0, .int .i64 0] [.int .i64 x.dc, .int .i64 x.rg, .int .i64 x.sq] rfl rfl ?_ | refine WX.callQ rfl hch rfl ?_ | fail)
    rename_i b7
    refine W.mixN 8 (List.replicate 9 true) [DrBk b7 x.dc x.rg x.sq, ClBk b5 o] Tryz.mix (by kernel_rfl) ?_
    repeat' (first | refine runS ?_ | refine lN o.enc _ rfl ?_ (hc := g1) | fail)
    refine I.st ?_
    refine stN o.enc (colF rg (es.take (i + 1))).enc rfl rfl ?_ (e := g3) (hb := g4)
    try refine runS ?_
    exact D.rd (i + 1) (by omega) (by omega)
   ·rw [decide_eq_false hD] at hch
    rw [show colStep rg o x = _ from if_neg fun h => hD (hg ▸ h.2)] at hnx
    repeat' (first | refine runS ?_ | refine al (fun _ => ?_) | refine WX.loadEA (t := 39) (us := [.int .i64 x.dc, .int .i64 x.rg, .int .i64 x.sq]) rfl hs hx rfl rfl rfl rfl ?_ | refine lAN (t := 39) [.int .i64 x.dc, .int .i64 x.rg, .int .i64 x.sq] [.int .i64 x.dc, .int .i64 x.rg, .int .i64 x.sq] rfl ?_ | refine sGW [.int .i64 0, .int .i64 0, .int .i64 0] [.int .i64 x.dc, .int .i64 x.rg, .int .i64 x.sq] rfl rfl ?_ | refine WX.callQ rfl hch rfl ?_ | fail)
    rw [← hnx]
    exact D.rd (i + 1) (by omega) (by omega)
  ·rw [show colStep rg o x = _ from if_neg fun h => hg h.1] at hnx
   repeat' (first | refine runS ?_ | refine al (fun _ => ?_) | refine WX.loadEA (t := 39) (us := [.int .i64 x.dc, .int .i64 x.rg, .int .i64 x.sq]) rfl hs hx rfl rfl rfl rfl ?_ | refine sGW [.int .i64 0, .int .i64 0, .int .i64 0] [.int .i64 x.dc, .int .i64 x.rg, .int .i64 x.sq] rfl rfl ?_ | fail)
   rw [← hnx]
   exact D.rd (i + 1) (by omega) (by omega)
 ·obtain rfl : i = es.length := by omega
  rw [take_length]
  generalize colF rg es = o
  repeat' (first | refine runS ?_ | refine lAN o.enc o.enc rfl ?_ | refine sGW V3.z.enc o.enc rfl rfl ?_ | fail)
  exact D.finR1 [h] _ rfl (.cellA rfl rfl .nil) ⟨rfl, rfl⟩
def dnextOk (dc rg : Int) (xs : List Int) : Bool := decide (mostI xs < MC ∧ RightS (mostI xs + 1) dc rg)
set_option maxRecDepth 4000 in
theorem dnext_ct (dc rg : Int) {xs : List Int} {u : Value} {h : Hp} (hs : Rs xs u h) (hl : xs.length ≤ 1000000) :
  Ct prog 162 [.int .i64 dc, .int .i64 rg, u] [h] (fun r H' => r = .tuple #[.agg (List.toArray (stampV (dnextOk dc rg xs) (mostI xs + 1) dc rg)), .bool (dnextOk dc rg xs)] ∧ H' = [h]) := by
 have hnn := mostI_nn xs
 obtain ⟨up, uc, rfl⟩ := hs.len
 refine Ct.mk' func162 rfl rfl rfl (fun g R => ?_)
 try simp only [ca]
 simp only [na]
 repeat' (first | refine runS ?_ | refine al (fun _ => ?_) | fail)
 rename_i b6
 refine W.loop (α := Nat) (fun i => i ≤ xs.length) (fun i => [(0, .int .i64 dc), (1, .int .i64 rg), (2, .slice up xs.length uc), (6, .pointer (some ⟨b6, 0, none⟩)), (8, .int .i64 (mostI (xs.take i))), (9, .int .i64 (i : Int))]) (fun i => [[(b6, .cells (List.toArray [.int .i64 0, .int .i64 0, .int .i64 0]) 41 (0, 0))], h, R]) (fun i => xs.length - i) 0 (Nat.zero_le _) (by repeat (first | exact Fsub.nil | refine Fsub.cons rfl ?_)) (Hsub.of_picks inferInstance) ?_
 intro i hi
 by_cases hlt : i < xs.length
 ·obtain ⟨x, hx⟩ : ∃ x, xs[i]? = some x := ⟨_, List.getElem?_eq_getElem hlt⟩
  have hnx := mostI_take hx
  generalize mostI (xs.take i) = o at hnx ⊢
  try refine run ?_
  refine D.as 8 (.int .i64 (mostI (xs.take (i + 1)))) rfl (by rw [hnx]; rfl) ?_
  exact D.rd (i + 1) (by omega) (by omega)
 ·obtain rfl : i = xs.length := by omega
  rw [take_length]
  obtain ⟨ok, hok⟩ : ∃ b, dnextOk dc rg xs = b := ⟨_, rfl⟩
  have hok2 : decide (mostI xs < 1099511627776 ∧ RightS (mostI xs + 1) dc rg) = ok := hok
  rw [hok]
  generalize mostI xs = o at hnn hok2 ⊢
  have hrs := drightS_ct (o + 1) dc rg
  by_cases hm : o < 1099511627776
  ·by_cases hR : RightS (o + 1) dc rg
   ·rw [decide_eq_true ⟨hm, hR⟩] at hok2
    subst hok2
    rw [decide_eq_true hR] at hrs
    try refine runS ?_
    refine I.bd ?_
    refine bdN (t := 41) [.int .i64 (o + 1), .int .i64 dc, .int .i64 rg] ?_ (hf' := by exact rfl)
    repeat' (first | refine runS ?_ | refine al (fun _ => ?_) | refine lAN [.int .i64 (o + 1), .int .i64 dc, .int .i64 rg] [.int .i64 (o + 1), .int .i64 dc, .int .i64 rg] rfl ?_ | refine WX.callQ rfl hrs rfl ?_ | refine sGW [.int .i64 0, .int .i64 0, .int .i64 0] [.int .i64 (o + 1), .int .i64 dc, .int .i64 rg] rfl rfl ?_ | fail)
    exact D.finR [h] _ rfl (.cellA rfl rfl (.tmp rfl .nil)) rfl ⟨rfl, rfl⟩
   ·rw [decide_eq_false fun h => hR h.2] at hok2
    subst hok2
    rw [decide_eq_false hR] at hrs
    try refine runS ?_
    refine I.bd ?_
    refine bdN (t := 41) [.int .i64 (o + 1), .int .i64 dc, .int .i64 rg] ?_ (hf' := by exact rfl)
    repeat' (first | refine runS ?_ | refine al (fun _ => ?_) | refine lAN [.int .i64 (o + 1), .int .i64 dc, .int .i64 rg] [.int .i64 (o + 1), .int .i64 dc, .int .i64 rg] rfl ?_ | refine WX.callQ rfl hrs rfl ?_ | refine sGW [.int .i64 0, .int .i64 0, .int .i64 0] [.int .i64 (o + 1), .int .i64 dc, .int .i64 rg] rfl rfl ?_ | fail)
    refine I.bd ?_
    refine bdN (t := 41) [.int .i64 0, .int .i64 0, .int .i64 0] ?_ (hf' := by exact rfl)
    repeat' (first | refine runS ?_ | refine sGW [.int .i64 0, .int .i64 0, .int .i64 0] [.int .i64 0, .int .i64 0, .int .i64 0] rfl rfl ?_ | fail)
    exact D.finR [h] _ rfl (.cellA rfl rfl (.tmp rfl .nil)) rfl ⟨rfl, rfl⟩
  ·rw [decide_eq_false fun h => hm h.1] at hok2
   subst hok2
   try refine runS ?_
   refine I.bd ?_
   refine bdN (t := 41) [.int .i64 0, .int .i64 0, .int .i64 0] ?_ (hf' := by exact rfl)
   repeat' (first | refine runS ?_ | refine sGW [.int .i64 0, .int .i64 0, .int .i64 0] [.int .i64 0, .int .i64 0, .int .i64 0] rfl rfl ?_ | fail)
   exact D.finR [h] _ rfl (.cellA rfl rfl (.tmp rfl .nil)) rfl ⟨rfl, rfl⟩
end Go.Proofs.YtejfahjgfedliaaGreat

namespace Go.Proofs.YtejfahjgfedliaaGreat
open Go Go.Sl Go.Proofs.Tryz
set_option maxRecDepth 4000 in
set_option maxHeartbeats 2000000 in
theorem dentR_ct (e : Ent) : Ct prog 165 [.agg (List.toArray e.enc)] [] (fun r H' => r = .bool (decide (EntR e)) ∧ H' = []) := by
 have hch := dchainD_ct e.dc e.rg e.sq
 have hst := drightS_ct e.ct e.sd e.sr
 have hrv := drightV_ct e.dp
 refine Ct.mk' func165 rfl rfl rfl (fun g R => ?_)
 try simp only [ca]
 simp only [na]
 by_cases c1 : ChainD e.dc e.rg
 rw [decide_eq_true c1] at hch
 by_cases c2 : 1 ≤ e.sq
 by_cases c3 : e.sq ≤ 1099511627776
 by_cases c4 : RightS e.ct e.sd e.sr
 rw [decide_eq_true c4] at hst
 by_cases c5 : e.sd = e.dc
 by_cases c6 : e.sr = e.rg
 by_cases c7 : 1 ≤ (e.key.size : Int)
 by_cases c8 : (e.key.size : Int) ≤ 16
 by_cases c9 : (e.val.size : Int) ≤ 32
 ·obtain ⟨d1, d2, d3, d4⟩ := c1
  have hb : e.dc.toNat * 3 + e.rg.toNat < 9 := by omega
  obtain ⟨y, hy⟩ : ∃ y, e.dp.at (e.dc.toNat * 3 + e.rg.toNat) = y := ⟨_, rfl⟩
  have g1 : e.enc[0 + 9 + e.dc.toNat * 3 + e.rg.toNat * 1]? = some (.int .i64 y) := by
   rw [← hy, show 0 + 9 + e.dc.toNat * 3 + e.rg.toNat * 1 = 9 + (e.dc.toNat * 3 + e.rg.toNat) by omega, ← List.getElem?_drop, show e.enc.drop 9 = e.dp.enc ++ [.int .i64 e.cl, .int .i64 e.op] from rfl, List.getElem?_append_left (by show _ < 9; exact hb), V9.enc_at _ hb]
  cases hd : e.dead with
  | false =>
   skip
   by_cases q1 : RightV e.dp
   rw [decide_eq_true q1] at hrv
   by_cases q2 : y = e.sq - 1
   by_cases k1 : 0 ≤ e.cl
   by_cases k2 : e.cl < 4
   by_cases k3 : 1 ≤ e.op
   by_cases k4 : e.op ≤ 1099511627776
   ·have hyes : EntR e := ⟨⟨d1, d2, d3, d4⟩, ⟨c2, c3⟩, c4, c5, c6, ⟨by omega, by omega⟩, by omega, (fun h => by rw [hd] at h; cases h), q1, by rw [hy]; exact q2, ⟨k1, k2⟩, ⟨k3, k4⟩⟩
    skip
    skip
    repeat' (first | refine runS ?_ | refine gS (fun _ => ?_) (fun _ => ?_) | refine bx rfl (fun _ => ?_) | refine al (fun _ => ?_) | refine WX.callQ rfl hch rfl ?_ | refine WX.callQ rfl hst rfl ?_ | refine lAN (t := 39) e.enc [.int .i64 e.dc, .int .i64 e.rg, .int .i64 e.sq] rfl ?_ | refine lAN (t := 41) e.enc [.int .i64 e.ct, .int .i64 e.sd, .int .i64 e.sr] rfl ?_ | fail)
    rw [hd]
    skip
    repeat' (first | refine runS ?_ | refine gS (fun _ => ?_) (fun _ => ?_) | refine bx rfl (fun _ => ?_) | refine al (fun _ => ?_) | refine WX.callQ rfl hch rfl ?_ | refine WX.callQ rfl hst rfl ?_ | refine lAN (t := 39) e.enc [.int .i64 e.dc, .int .i64 e.rg, .int .i64 e.sq] rfl ?_ | refine lAN (t := 41) e.enc [.int .i64 e.ct, .int .i64 e.sd, .int .i64 e.sr] rfl ?_ | fail)
    refine W.quiet Tryz.mix (by kernel_rfl) ?_
    skip
    repeat' (first | refine runS ?_ | refine gS (fun _ => ?_) (fun _ => ?_) | refine bx rfl (fun _ => ?_) | refine al (fun _ => ?_) | refine WX.callQ rfl hch rfl ?_ | refine WX.callQ rfl hst rfl ?_ | refine WX.callQ rfl hrv rfl ?_ | refine lAN (t := 39) e.enc [.int .i64 e.dc, .int .i64 e.rg, .int .i64 e.sq] rfl ?_ | refine lAN (t := 41) e.enc [.int .i64 e.ct, .int .i64 e.sd, .int .i64 e.sr] rfl ?_ | refine lAN (t := 37) e.enc e.dp.enc rfl ?_ | refine lN e.enc _ rfl ?_ (hc := g1) | fail)
    exact D.fin1 [] _ rfl rfl ⟨by rw [decide_eq_true hyes]; simp [k4], rfl⟩
   all_goals
    have hno : ¬ EntR e := by first | exact fun h => q1 h.dp | exact fun h => q2 (hy ▸ h.own) | exact fun h => k1 h.cl.1 | exact fun h => k2 h.cl.2 | exact fun h => k3 h.op.1 | exact fun h => k4 h.op.2
    try rw [decide_eq_false q1] at hrv
    skip
    skip
    repeat' (first | refine runS ?_ | refine gS (fun _ => ?_) (fun _ => ?_) | refine bx rfl (fun _ => ?_) | refine al (fun _ => ?_) | refine WX.callQ rfl hch rfl ?_ | refine WX.callQ rfl hst rfl ?_ | refine lAN (t := 39) e.enc [.int .i64 e.dc, .int .i64 e.rg, .int .i64 e.sq] rfl ?_ | refine lAN (t := 41) e.enc [.int .i64 e.ct, .int .i64 e.sd, .int .i64 e.sr] rfl ?_ | fail)
    rw [hd]
    skip
    repeat' (first | refine runS ?_ | refine gS (fun _ => ?_) (fun _ => ?_) | refine bx rfl (fun _ => ?_) | refine al (fun _ => ?_) | refine WX.callQ rfl hch rfl ?_ | refine WX.callQ rfl hst rfl ?_ | refine lAN (t := 39) e.enc [.int .i64 e.dc, .int .i64 e.rg, .int .i64 e.sq] rfl ?_ | refine lAN (t := 41) e.enc [.int .i64 e.ct, .int .i64 e.sd, .int .i64 e.sr] rfl ?_ | fail)
    refine W.quiet Tryz.mix (by kernel_rfl) ?_
    skip
    repeat' (first | refine runS ?_ | refine gS (fun _ => ?_) (fun _ => ?_) | refine bx rfl (fun _ => ?_) | refine al (fun _ => ?_) | refine WX.callQ rfl hch rfl ?_ | refine WX.callQ rfl hst rfl ?_ | refine WX.callQ rfl hrv rfl ?_ | refine lAN (t := 39) e.enc [.int .i64 e.dc, .int .i64 e.rg, .int .i64 e.sq] rfl ?_ | refine lAN (t := 41) e.enc [.int .i64 e.ct, .int .i64 e.sd, .int .i64 e.sr] rfl ?_ | refine lAN (t := 37) e.enc e.dp.enc rfl ?_ | refine lN e.enc _ rfl ?_ (hc := g1) | fail)
    exact D.fin1 [] _ rfl rfl ⟨by rw [decide_eq_false hno]; first | done | simp [k4], rfl⟩
  | true =>
   by_cases hv : e.val = ⟨#[]⟩
   ·have hv2 : ¬ ¬ e.val = ⟨#[]⟩ := fun h => h hv
    by_cases q1 : RightV e.dp
    rw [decide_eq_true q1] at hrv
    by_cases q2 : y = e.sq - 1
    by_cases k1 : 0 ≤ e.cl
    by_cases k2 : e.cl < 4
    by_cases k3 : 1 ≤ e.op
    by_cases k4 : e.op ≤ 1099511627776
    ·have hyes : EntR e := ⟨⟨d1, d2, d3, d4⟩, ⟨c2, c3⟩, c4, c5, c6, ⟨by omega, by omega⟩, by omega, (fun _ => hv), q1, by rw [hy]; exact q2, ⟨k1, k2⟩, ⟨k3, k4⟩⟩
     skip
     skip
     repeat' (first | refine runS ?_ | refine gS (fun _ => ?_) (fun _ => ?_) | refine bx rfl (fun _ => ?_) | refine al (fun _ => ?_) | refine WX.callQ rfl hch rfl ?_ | refine WX.callQ rfl hst rfl ?_ | refine lAN (t := 39) e.enc [.int .i64 e.dc, .int .i64 e.rg, .int .i64 e.sq] rfl ?_ | refine lAN (t := 41) e.enc [.int .i64 e.ct, .int .i64 e.sd, .int .i64 e.sr] rfl ?_ | fail)
     rw [hd]
     skip
     repeat' (first | refine runS ?_ | refine gS (fun _ => ?_) (fun _ => ?_) | refine bx rfl (fun _ => ?_) | refine al (fun _ => ?_) | refine WX.callQ rfl hch rfl ?_ | refine WX.callQ rfl hst rfl ?_ | refine lAN (t := 39) e.enc [.int .i64 e.dc, .int .i64 e.rg, .int .i64 e.sq] rfl ?_ | refine lAN (t := 41) e.enc [.int .i64 e.ct, .int .i64 e.sd, .int .i64 e.sr] rfl ?_ | fail)
     refine W.quiet Tryz.mix (by kernel_rfl) ?_
     skip
     repeat' (first | refine runS ?_ | refine gS (fun _ => ?_) (fun _ => ?_) | refine bx rfl (fun _ => ?_) | refine al (fun _ => ?_) | refine WX.callQ rfl hch rfl ?_ | refine WX.callQ rfl hst rfl ?_ | refine WX.callQ rfl hrv rfl ?_ | refine lAN (t := 39) e.enc [.int .i64 e.dc, .int .i64 e.rg, .int .i64 e.sq] rfl ?_ | refine lAN (t := 41) e.enc [.int .i64 e.ct, .int .i64 e.sd, .int .i64 e.sr] rfl ?_ | refine lAN (t := 37) e.enc e.dp.enc rfl ?_ | refine lN e.enc _ rfl ?_ (hc := g1) | fail)
     exact D.fin1 [] _ rfl rfl ⟨by rw [decide_eq_true hyes]; simp [k4], rfl⟩
    all_goals
     have hno : ¬ EntR e := by first | exact fun h => q1 h.dp | exact fun h => q2 (hy ▸ h.own) | exact fun h => k1 h.cl.1 | exact fun h => k2 h.cl.2 | exact fun h => k3 h.op.1 | exact fun h => k4 h.op.2
     try rw [decide_eq_false q1] at hrv
     skip
     skip
     repeat' (first | refine runS ?_ | refine gS (fun _ => ?_) (fun _ => ?_) | refine bx rfl (fun _ => ?_) | refine al (fun _ => ?_) | refine WX.callQ rfl hch rfl ?_ | refine WX.callQ rfl hst rfl ?_ | refine lAN (t := 39) e.enc [.int .i64 e.dc, .int .i64 e.rg, .int .i64 e.sq] rfl ?_ | refine lAN (t := 41) e.enc [.int .i64 e.ct, .int .i64 e.sd, .int .i64 e.sr] rfl ?_ | fail)
     rw [hd]
     skip
     repeat' (first | refine runS ?_ | refine gS (fun _ => ?_) (fun _ => ?_) | refine bx rfl (fun _ => ?_) | refine al (fun _ => ?_) | refine WX.callQ rfl hch rfl ?_ | refine WX.callQ rfl hst rfl ?_ | refine lAN (t := 39) e.enc [.int .i64 e.dc, .int .i64 e.rg, .int .i64 e.sq] rfl ?_ | refine lAN (t := 41) e.enc [.int .i64 e.ct, .int .i64 e.sd, .int .i64 e.sr] rfl ?_ | fail)
     refine W.quiet Tryz.mix (by kernel_rfl) ?_
     skip
     repeat' (first | refine runS ?_ | refine gS (fun _ => ?_) (fun _ => ?_) | refine bx rfl (fun _ => ?_) | refine al (fun _ => ?_) | refine WX.callQ rfl hch rfl ?_ | refine WX.callQ rfl hst rfl ?_ | refine WX.callQ rfl hrv rfl ?_ | refine lAN (t := 39) e.enc [.int .i64 e.dc, .int .i64 e.rg, .int .i64 e.sq] rfl ?_ | refine lAN (t := 41) e.enc [.int .i64 e.ct, .int .i64 e.sd, .int .i64 e.sr] rfl ?_ | refine lAN (t := 37) e.enc e.dp.enc rfl ?_ | refine lN e.enc _ rfl ?_ (hc := g1) | fail)
     exact D.fin1 [] _ rfl rfl ⟨by rw [decide_eq_false hno]; first | done | simp [k4], rfl⟩
   ·have hno : ¬ EntR e := fun h => hv (h.dead hd)
    skip
    repeat' (first | refine runS ?_ | refine gS (fun _ => ?_) (fun _ => ?_) | refine bx rfl (fun _ => ?_) | refine al (fun _ => ?_) | refine WX.callQ rfl hch rfl ?_ | refine WX.callQ rfl hst rfl ?_ | refine lAN (t := 39) e.enc [.int .i64 e.dc, .int .i64 e.rg, .int .i64 e.sq] rfl ?_ | refine lAN (t := 41) e.enc [.int .i64 e.ct, .int .i64 e.sd, .int .i64 e.sr] rfl ?_ | fail)
    rw [hd]
    skip
    repeat' (first | refine runS ?_ | refine gS (fun _ => ?_) (fun _ => ?_) | refine bx rfl (fun _ => ?_) | refine al (fun _ => ?_) | refine WX.callQ rfl hch rfl ?_ | refine WX.callQ rfl hst rfl ?_ | refine lAN (t := 39) e.enc [.int .i64 e.dc, .int .i64 e.rg, .int .i64 e.sq] rfl ?_ | refine lAN (t := 41) e.enc [.int .i64 e.ct, .int .i64 e.sd, .int .i64 e.sr] rfl ?_ | fail)
    exact D.fin1 [] _ rfl rfl ⟨by rw [decide_eq_false hno], rfl⟩
 all_goals
  have hno : ¬ EntR e := by first | exact fun h => c1 h.ch | exact fun h => c2 h.sq.1 | exact fun h => c3 h.sq.2 | exact fun h => c4 h.st | exact fun h => c5 h.sd | exact fun h => c6 h.sr | exact fun h => c7 (by have := h.key.1; omega) | exact fun h => c8 (by have := h.key.2; omega) | exact fun h => c9 (by have := h.val; omega)
  try rw [decide_eq_false c1] at hch
  try rw [decide_eq_false c4] at hst
  skip
  skip
  repeat' (first | refine runS ?_ | refine gS (fun _ => ?_) (fun _ => ?_) | refine bx rfl (fun _ => ?_) | refine al (fun _ => ?_) | refine WX.callQ rfl hch rfl ?_ | refine WX.callQ rfl hst rfl ?_ | refine lAN (t := 39) e.enc [.int .i64 e.dc, .int .i64 e.rg, .int .i64 e.sq] rfl ?_ | refine lAN (t := 41) e.enc [.int .i64 e.ct, .int .i64 e.sd, .int .i64 e.sr] rfl ?_ | fail)
  exact D.fin1 [] _ rfl rfl ⟨by rw [decide_eq_false hno], rfl⟩
end Go.Proofs.YtejfahjgfedliaaGreat

namespace Go.Proofs.YtejfahjgfedliaaGreat
open Go Go.Sl Go.Proofs.Tryz List
theorem cfg_atG {x : Cfg} {k : Nat} {m : Mem} (hk : x.ms4[k]? = some m) : ((x.enc).drop (0 + 2 + ((k : Nat) : Int).toNat * 2)).take 2 = m.enc := by
 have hlt : k < 4 := (List.getElem?_eq_some_iff.1 hk).1
 rcases (by omega : k = 0 ∨ k = 1 ∨ k = 2 ∨ k = 3) with rfl | rfl | rfl | rfl <;> cases hk <;> rfl
theorem dmembersG_ct (x : Cfg) :
  Ct prog 169 [.agg (List.toArray x.enc)] [] (fun r H' => ∃ h', IsSl 31 (chOf x).all r h' ∧ H' = [h']) := by
 have h4 : x.ms4.length = 4 := rfl
 obtain ⟨n, hn⟩ : ∃ n : Nat, x.n.toNat = n := ⟨_, rfl⟩
 have hall : (chOf x).all = x.ms4.take n ++ (if x.jo = true then some x.le else none).toList := by rw [← hn]; rfl
 rw [hall]
 refine Ct.mk' func169 rfl rfl rfl (fun g R => ?_)
 try simp only [ca]
 simp only [na]
 repeat' (first | refine run ?_ | refine bx rfl (fun _ => ?_) | fail)
 rename_i b
 refine W.nilH ?_
 refine W.loop (α := Nat × Value × Hp) (fun y => y.1 ≤ n ∧ y.1 ≤ 4 ∧ IsSl 31 (x.ms4.take y.1) y.2.1 y.2.2) (fun y => [(1, .pointer (some ⟨b, 0, none⟩)), (3, y.2.1), (4, .int .i64 (y.1 : Int))]) (fun y => [y.2.2, CfBk b x, R]) (fun y => 4 - y.1) (0, .slice none 0 0, []) ⟨Nat.zero_le _, Nat.zero_le _, IsSl.nil _⟩ (by repeat (first | exact Fsub.nil | refine Fsub.cons rfl ?_)) (Hsub.of_picks inferInstance) ?_
 rintro ⟨k, v, h⟩ ⟨hk, hk4, hs⟩
 simp only [] at hk hk4 hs ⊢
 by_cases hlt : k < n ∧ k < 4
 ·obtain ⟨hlt1, hlt2⟩ := hlt
  have hln : (k : Int) < x.n := by omega
  obtain ⟨m, hm⟩ : ∃ m, x.ms4[k]? = some m := ⟨_, List.getElem?_eq_getElem (by omega)⟩
  have hat := cfg_atG hm
  have htl : (x.ms4.take k).length ≤ 4 := by rw [length_take]; omega
  repeat' (first | refine run ?_ | refine WX.loadA rfl hat rfl rfl ?_ | fail)
  refine I.bs ?_
  refine WX.lit (ys := [m]) rfl rfl rfl rfl rfl rfl (by decide) rfl (fun v2 h2 hs2 => ?_)
  skip
  refine WX.app rfl rfl hs hs2.rs rfl rfl (by decide) (by simp only [length_cons, length_nil]; omega) rfl (fun v3 h3 hs3 => ?_)
  rw [show x.ms4.take k ++ [m] = x.ms4.take (k + 1) by rw [take_add_one, hm]; rfl] at hs3
  try refine run ?_
  exact D.rd (k + 1, v3, h3) ⟨by simp only []; omega, by simp only []; omega, hs3⟩ (by simp only []; omega)
 ·have htk : x.ms4.take k = x.ms4.take n := by
   rcases (by omega : k = n ∨ (k = 4 ∧ 4 ≤ n)) with h | ⟨h, h'⟩
   ·rw [h]
   ·rw [h, take_of_length_le (by omega), take_of_length_le (by omega)]
  have htl : (x.ms4.take n).length ≤ 4 := by rw [length_take]; omega
  rw [htk] at hs
  have hge : ¬ ((k : Int) < x.n ∧ (k : Int) < 4) := by omega
  clear hlt htk
  by_cases hc : (k : Int) < x.n
  ·have hc2 : ¬ (k : Int) < 4 := fun h => hge ⟨hc, h⟩
   cases hj : x.jo with
   | false =>
    skip
    try refine run ?_
    rw [hj]
    try refine run ?_
    exact D.fin1 [h] _ rfl rfl ⟨h, by simpa using hs, rfl⟩
   | true =>
    skip
    try refine run ?_
    rw [hj]
    try refine run ?_
    refine I.bs ?_
    refine WX.lit (ys := [x.le]) rfl rfl rfl rfl rfl rfl (by decide) rfl (fun v2 h2 hs2 => ?_)
    skip
    refine WX.app rfl rfl hs hs2.rs rfl rfl (by decide) (by simp only [length_cons, length_nil]; omega) rfl (fun v3 h3 hs3 => ?_)
    try refine run ?_
    exact D.fin1 [h3] _ rfl rfl ⟨h3, by simpa using hs3, rfl⟩
  ·cases hj : x.jo with
   | false =>
    skip
    try refine run ?_
    rw [hj]
    try refine run ?_
    exact D.fin1 [h] _ rfl rfl ⟨h, by simpa using hs, rfl⟩
   | true =>
    skip
    try refine run ?_
    rw [hj]
    try refine run ?_
    refine I.bs ?_
    refine WX.lit (ys := [x.le]) rfl rfl rfl rfl rfl rfl (by decide) rfl (fun v2 h2 hs2 => ?_)
    skip
    refine WX.app rfl rfl hs hs2.rs rfl rfl (by decide) (by simp only [length_cons, length_nil]; omega) rfl (fun v3 h3 hs3 => ?_)
    try refine run ?_
    exact D.fin1 [h3] _ rfl rfl ⟨h3, by simpa using hs3, rfl⟩
set_option maxRecDepth 20000 in
theorem drightG_ct (x : Cfg) : Ct prog 153 [.agg (List.toArray x.enc)] [] (fun r H' => r = .bool (decide (RightC x)) ∧ H' = []) := by
 by_cases hyes : RightC x
 ·have h := dright_ct hyes.2.2
  rw [hyes.2.1] at h
  rw [decide_eq_true hyes]
  exact h
 rw [decide_eq_false hyes]
 by_cases hbad : ¬ (1 ≤ x.ep ∧ x.ep ≤ 1099511627776 ∧ 1 ≤ x.n ∧ x.n ≤ 4)
 ·clear hyes
  refine Ct.mk' func153 rfl rfl rfl (fun g R => ?_)
  try simp only [ca]
  simp only [na]
  by_cases g1 : x.ep < 1
  ·repeat' (first | refine run ?_ | refine bx rfl (fun _ => ?_) | fail)
   exact D.fin1 [] _ rfl rfl ⟨rfl, rfl⟩
  by_cases g2 : 1099511627776 < x.ep
  ·repeat' (first | refine run ?_ | refine bx rfl (fun _ => ?_) | fail)
   exact D.fin1 [] _ rfl rfl ⟨rfl, rfl⟩
  by_cases g3 : x.n < 1
  ·repeat' (first | refine run ?_ | refine bx rfl (fun _ => ?_) | fail)
   exact D.fin1 [] _ rfl rfl ⟨rfl, rfl⟩
  have g4 : 4 < x.n := by omega
  repeat' (first | refine run ?_ | refine bx rfl (fun _ => ?_) | fail)
  exact D.fin1 [] _ rfl rfl ⟨rfl, rfl⟩
 obtain ⟨he1, he2, hn1, hn4⟩ := Classical.not_not.1 hbad
 clear hbad
 obtain ⟨n, hn⟩ : ∃ k : Nat, x.n = (k : Int) := ⟨x.n.toNat, by omega⟩
 have hn4' : n ≤ 4 := by omega
 have hbk := cfg_back hn hn4'
 obtain ⟨c, hc⟩ : ∃ c, chOf x = c := ⟨_, rfl⟩
 have hcep : c.ep = x.ep := by rw [← hc]; rfl
 have hcl : c.ms.length = n := by rw [← hc]; show (x.ms4.take x.n.toNat).length = n; rw [length_take, hn]; show min n 4 = n; omega
 have hall : c.all.length ≤ 5 := by
  unfold Ch.all; rw [length_append]; have : c.ln.toList.length ≤ 1 := (by cases c.ln <;> simp); omega
 have hmc := dmembersG_ct x
 rw [hc] at hmc
 have hfin : ¬ (MemsOk c c.all.length ∧ (∀ m ∈ x.ms4.drop n, m = Mem.z) ∧ (x.jo = false → x.le = Mem.z)) := fun ⟨q1, q2, q3⟩ => hyes ⟨⟨hn1, hn4⟩, hbk q2 q3, by rw [hc]; exact q1.all (by rw [hcep]; exact he1) (by rw [hcep]; exact he2) (by omega)⟩
 clear hyes hbk hc
 refine Ct.mk' func153 rfl rfl rfl (fun g R => ?_)
 try simp only [ca]
 simp only [na]
 repeat' (first | refine run ?_ | refine bx rfl (fun _ => ?_) | fail)
 rename_i b
 refine WX.call rfl hmc rfl ?_
 rintro v _ ⟨h, hs, rfl⟩
 have hr := hs.rs
 obtain ⟨vp, vc, rfl⟩ := hr.len
 simp only [ca, na]
 try refine run ?_
 refine W.loop (α := Nat) (fun q => q ≤ c.all.length ∧ MemsOk c q) (fun q => [(1, .pointer (some ⟨b, 0, none⟩)), (3, .slice vp c.all.length vc), (4, .int .i64 (q : Int))]) (fun _ => [h, CfBk b x, R]) (fun q => c.all.length - q) 0 ⟨Nat.zero_le _, fun i m hi => absurd hi (Nat.not_lt_zero _)⟩ (by repeat (first | exact Fsub.nil | refine Fsub.cons rfl ?_)) (Hsub.of_picks inferInstance) ?_
 rintro q ⟨hq, hmo⟩
 by_cases hlt : q < c.all.length
 ·obtain ⟨m, hm⟩ : ∃ m, c.all[q]? = some m := ⟨_, List.getElem?_eq_getElem hlt⟩
  by_cases r1 : m.nd < 0
  ·try refine run ?_
   refine W.quiet Tryz.mix (by kernel_rfl) ?_
   try refine run ?_
   exact D.fin1 [] _ rfl rfl ⟨rfl, rfl⟩
  by_cases r2 : 4 ≤ m.nd
  ·try refine run ?_
   refine W.quiet Tryz.mix (by kernel_rfl) ?_
   try refine run ?_
   exact D.fin1 [] _ rfl rfl ⟨rfl, rfl⟩
  by_cases r3 : m.sn < 1
  ·try refine run ?_
   refine W.quiet Tryz.mix (by kernel_rfl) ?_
   try refine run ?_
   exact D.fin1 [] _ rfl rfl ⟨rfl, rfl⟩
  by_cases r4 : x.ep < m.sn
  ·try refine run ?_
   refine W.quiet Tryz.mix (by kernel_rfl) ?_
   try refine run ?_
   exact D.fin1 [] _ rfl rfl ⟨rfl, rfl⟩
  try refine run ?_
  refine W.quiet Tryz.mix (by kernel_rfl) ?_
  try refine run ?_
  refine W.loop (α := Nat) (fun k => k ≤ q ∧ ∀ (j : Nat) (m' : Mem), j < k → c.all[j]? = some m' → m'.nd ≠ m.nd) (fun k => [(1, .pointer (some ⟨b, 0, none⟩)), (3, .slice vp c.all.length vc), (4, .int .i64 (q : Int)), (5, .int .i64 (k : Int))]) (fun _ => [h, CfBk b x, R]) (fun k => q - k) 0 ⟨Nat.zero_le _, fun i m hi => absurd hi (Nat.not_lt_zero _)⟩ (by repeat (first | exact Fsub.nil | refine Fsub.cons rfl ?_)) (Hsub.of_picks inferInstance) ?_
  rintro k ⟨hk, hno⟩
  by_cases hlk : k < q
  ·obtain ⟨y, hy⟩ : ∃ y, c.all[k]? = some y := ⟨_, List.getElem?_eq_getElem (by omega)⟩
   by_cases hne : y.nd = m.nd
   ·try refine run ?_
    refine W.quiet Tryz.mix (by kernel_rfl) ?_
    try refine run ?_
    exact D.fin1 [] _ rfl rfl ⟨rfl, rfl⟩
   ·try refine run ?_
    refine W.quiet Tryz.mix (by kernel_rfl) ?_
    try refine run ?_
    refine D.rd (k + 1) ⟨by omega, fun j m' hj hm' => ?_⟩ (by omega)
    rcases Nat.lt_or_ge j k with hh | hh
    ·exact hno j m' hh hm'
    ·obtain rfl : j = k := by omega
     rw [hy] at hm'
     cases hm'
     exact hne
  ·obtain rfl : k = q := by omega
   try refine run ?_
   refine D.rd (k + 1) ⟨by omega, fun i p hi hp => ?_⟩ (by omega)
   rcases Nat.lt_or_ge i k with hh | hh
   ·exact hmo i p hh hp
   ·obtain rfl : i = k := by omega
    rw [hm] at hp
    cases hp
    exact ⟨⟨by omega, by omega, by omega, by rw [hcep]; omega⟩, hno⟩
 ·obtain rfl : q = c.all.length := by omega
  try refine run ?_
  refine W.loop (α := Nat) (fun k => n ≤ k ∧ k ≤ 4 ∧ ∀ (i : Nat) (m : Mem), n ≤ i → i < k → x.ms4[i]? = some m → m = Mem.z) (fun k => [(1, .pointer (some ⟨b, 0, none⟩)), (6, .int .i64 (k : Int))]) (fun _ => [CfBk b x, R]) (fun k => 4 - k) n ⟨Nat.le_refl _, hn4', fun i m h1 h2 => absurd h1 (by omega)⟩ (by rw [← hn]; exact (by repeat (first | exact Fsub.nil | refine Fsub.cons rfl ?_))) (Hsub.of_picks inferInstance) ?_
  rintro k ⟨hk, hk4, hz⟩
  by_cases hlk : k < 4
  ·obtain ⟨m, hm⟩ : ∃ m, x.ms4[k]? = some m := ⟨_, List.getElem?_eq_getElem (by show k < 4; exact hlk)⟩
   have hat := cfg_atG hm
   have tm := mem_cells m Mem.z
   by_cases hmz : m = Mem.z
   ·rw [decide_eq_true hmz] at tm
    repeat' (first | refine run ?_ | refine WX.loadA rfl hat rfl rfl ?_ | refine WX.neqA rfl rfl tm rfl ?_ | fail)
    refine D.rd (k + 1) ⟨by omega, by omega, fun i p h1 h2 hp => ?_⟩ (by omega)
    rcases Nat.lt_or_ge i k with hh | hh
    ·exact hz i p h1 hh hp
    ·obtain rfl : i = k := by omega
     rw [hm] at hp
     cases hp
     exact hmz
   ·rw [decide_eq_false hmz] at tm
    repeat' (first | refine run ?_ | refine WX.loadA rfl hat rfl rfl ?_ | refine WX.neqA rfl rfl tm rfl ?_ | fail)
    exact D.fin1 [] _ rfl rfl ⟨rfl, rfl⟩
  ·obtain rfl : k = 4 := by omega
   have hrest : ∀ m ∈ x.ms4.drop n, m = Mem.z := fun m hm => by
    obtain ⟨i, hi⟩ := mem_iff_getElem?.1 hm
    rw [List.getElem?_drop] at hi
    have := (List.getElem?_eq_some_iff.1 hi).1
    exact hz (n + i) m (by omega) this hi
   have tl := mem_cells x.le Mem.z
   have hle : x.jo = false ∧ x.le ≠ Mem.z := by
    cases hj : x.jo with
    | true => exact absurd ⟨hmo, hrest, fun h => by rw [hj] at h; cases h⟩ hfin
    | false => exact ⟨rfl, fun h => hfin ⟨hmo, hrest, fun _ => h⟩⟩
   rw [decide_eq_false hle.2] at tl
   have hj := hle.1
   try refine run ?_
   rw [hj]
   repeat' (first | refine run ?_ | refine WX.eqlA rfl rfl tl rfl ?_ | fail)
   exact D.fin1 [] _ rfl rfl ⟨rfl, rfl⟩
theorem chOf_z : (chOf Cfg.z).all = [] := rfl
theorem dplaceO_ct {o : Option Ch} (ok : ChO o) (k : Int) : Ct prog 168 [.agg (List.toArray (cfO o).enc), .int .i64 k] [] (fun r H' => r = .int .i64 (iplc (nodesO o) k) ∧ H' = []) := by
 cases o with
 | some c =>
  rw [show iplc (nodesO (some c)) k = plc c.all k from iplc_plc]
  exact dplace_ct (ok c rfl) k
 | none =>
  have hr := drightG_ct Cfg.z
  rw [decide_eq_false right_z] at hr
  refine Ct.mk' func168 rfl rfl rfl (fun g R => ?_)
  try simp only [ca]
  simp only [na]
  repeat' (first | refine run ?_ | refine bx rfl (fun _ => ?_) | refine WX.callQ rfl hr rfl ?_ | fail)
  exact D.fin1 [] _ rfl rfl ⟨rfl, rfl⟩
theorem dmembersO_ct {o : Option Ch} (ok : ChO o) : Ct prog 169 [.agg (List.toArray (cfO o).enc)] [] (fun r H' => ∃ ms h', ms.map (·.nd) = nodesO o ∧ (∀ c, o = some c → ms = c.all) ∧ IsSl 31 ms r h' ∧ H' = [h']) := by
 have h := dmembersG_ct (cfO o)
 refine h.mono fun r H' hp => ?_
 obtain ⟨h', hs, rfl⟩ := hp
 refine ⟨(chOf (cfO o)).all, h', ?_, fun c hc => ?_, hs, rfl⟩
 ·cases o with
  | none => rfl
  | some c => rw [show cfO (some c) = c.cfg from rfl, chOf_cfg (by have := (ok c rfl).l4; omega)]; rfl
 ·subst hc
  rw [show cfO (some c) = c.cfg from rfl, chOf_cfg (by have := (ok c rfl).l4; omega)]
theorem drightO_ct {o : Option Ch} (ok : ChO o) : Ct prog 153 [.agg (List.toArray (cfO o).enc)] [] (fun r H' => r = .bool o.isSome ∧ H' = []) := by
 cases o with
 | none =>
  have hr := drightG_ct Cfg.z
  rw [decide_eq_false right_z] at hr
  exact hr
 | some c => exact dright_ct (ok c rfl)
theorem dhead_ct {o : Option Ch} (ok : ChO o) : Ct prog 204 [.agg (List.toArray (cfO o).enc)] [] (fun r H' => r = .int .i64 (headO o) ∧ H' = []) := by
 have hr := drightO_ct ok
 refine Ct.mk' func204 rfl rfl rfl (fun g R => ?_)
 try simp only [ca]
 simp only [na]
 cases o with
 | none =>
  skip
  repeat' (first | refine run ?_ | refine bx rfl (fun _ => ?_) | refine WX.callQ rfl hr rfl ?_ | fail)
  exact D.fin1 [] _ rfl rfl ⟨rfl, rfl⟩
 | some c =>
  have okc := ok c rfl
  obtain ⟨m, t, hm⟩ : ∃ m t, c.ms = m :: t := by
   have := okc.l1
   cases h : c.ms with
   | nil => rw [h] at this; exact absurd this (by decide)
   | cons m t => exact ⟨m, t, rfl⟩
  have e0 : (cfO (some c)).f0 = m := by show c.cfg.f0 = m; unfold Ch.cfg; rw [hm]; rfl
  have e1 : headO (some c) = m.nd := by show atL (c.all.map (·.nd)) 0 = m.nd; unfold Ch.all; rw [hm]; rfl
  rw [e1]
  repeat' (first | refine run ?_ | refine bx rfl (fun _ => ?_) | refine WX.callQ rfl hr rfl ?_ | fail)
  rw [e0]
  exact D.fin1 [] _ rfl rfl ⟨rfl, rfl⟩
theorem dlast_ct {o : Option Ch} (ok : ChO o) : Ct prog 211 [.agg (List.toArray (cfO o).enc)] [] (fun r H' => r = .int .i64 (lastO o) ∧ H' = []) := by
 have hr := drightO_ct ok
 refine Ct.mk' func211 rfl rfl rfl (fun g R => ?_)
 try simp only [ca]
 simp only [na]
 cases o with
 | none =>
  skip
  repeat' (first | refine run ?_ | refine bx rfl (fun _ => ?_) | refine WX.callQ rfl hr rfl ?_ | fail)
  exact D.fin1 [] _ rfl rfl ⟨rfl, rfl⟩
 | some c =>
  have okc := ok c rfl
  have h1 := okc.l1
  have h4 := up_l4 okc
  obtain ⟨n, hn⟩ : ∃ n, c.ms.length = n := ⟨_, rfl⟩
  have hcn : (cfO (some c)).n = (n : Int) := by rw [← hn]; rfl
  obtain ⟨m, hm⟩ : ∃ m, c.ms[n - 1]? = some m := ⟨_, List.getElem?_eq_getElem (by omega)⟩
  have e1 : lastO (some c) = m.nd := by
   unfold lastO
   rw [hcn]
   show atL (c.all.map (·.nd)) ((n : Int) - 1) = m.nd
   have hl : n ≤ (c.all.map (·.nd)).length := by rw [length_map]; unfold Ch.all; rw [length_append]; omega
   unfold atL
   rw [if_neg (by omega), getD_eq_getElem?_getD, List.getElem?_map, show ((n : Int) - 1).toNat = n - 1 by omega]
   unfold Ch.all
   rw [List.getElem?_append_left (by omega), hm]; rfl
  rw [e1]
  have hat := cfg_at (c := c) h4 hm
  have hg : (cfO (some c)).enc[0 + 2 + ((n : Int) - 1).toNat * 2 + 0]? = some (.int .i64 m.nd) := by
   rw [show ((n : Int) - 1).toNat = n - 1 by omega]
   rw [show (((n - 1 : Nat) : Int)).toNat = n - 1 from rfl] at hat
   have h0 := congrArg (fun l => l[0]?) hat
   try simp only [] at h0
   rw [List.getElem?_take, if_pos (by decide), List.getElem?_drop] at h0
   exact h0
  generalize hx : cfO (some c) = x at *
  repeat' (first | refine run ?_ | refine bx rfl (fun _ => ?_) | refine WX.callQ rfl hr rfl ?_ | fail)
  rw [hcn]
  repeat' (first | refine run ?_ | refine lN x.enc _ rfl ?_ (hc := hg) | fail)
  exact D.fin1 [] _ rfl rfl ⟨rfl, rfl⟩
theorem dahead_ct {o : Option Ch} (ok : ChO o) (k : Int) : Ct prog 166 [.agg (List.toArray (cfO o).enc), .int .i64 k] [] (fun r H' => r = .int .i64 (aheadO o k) ∧ H' = []) := by
 have hp := dplaceO_ct ok k
 have hm := dmembersO_ct ok
 have hl := nodesO_len ok
 have hi := iplc_range (nodesO o) k
 refine Ct.mk' func166 rfl rfl rfl (fun g R => ?_)
 try simp only [ca]
 simp only [na]
 by_cases h1 : iplc (nodesO o) k < 1
 ·have e : aheadO o k = -1 := by unfold aheadO atL; rw [if_pos (.inl (by omega))]
  rw [e]
  repeat' (first | refine run ?_ | refine bx rfl (fun _ => ?_) | refine WX.callQ rfl hp rfl ?_ | fail)
  exact D.fin1 [] _ rfl rfl ⟨rfl, rfl⟩
 ·repeat' (first | refine run ?_ | refine bx rfl (fun _ => ?_) | refine WX.callQ rfl hp rfl ?_ | fail)
  refine WX.call rfl hm rfl ?_
  rintro v _ ⟨ms, h, hnd, -, hs, rfl⟩
  have hr := hs.rs
  obtain ⟨vp, vc, rfl⟩ := hr.len
  have hml : ms.length = (nodesO o).length := by rw [← hnd, length_map]
  have hlt : iplc (nodesO o) k < (nodesO o).length ∨ True := .inr trivial
  by_cases hle : iplc (nodesO o) k ≤ (ms.length : Int)
  rotate_left
  ·omega
  obtain ⟨m, hmk⟩ : ∃ m, ms[(iplc (nodesO o) k - 1).toNat]? = some m := ⟨_, List.getElem?_eq_getElem (by omega)⟩
  have e : aheadO o k = m.nd := by
   unfold aheadO atL
   rw [if_neg (by omega), getD_eq_getElem?_getD, ← hnd, List.getElem?_map]
   rw [hnd, hmk]; rfl
  rw [e]
  simp only [ca, na]
  try refine run ?_
  exact D.fin1 [] _ rfl rfl ⟨rfl, rfl⟩
theorem dbehind_ct {o : Option Ch} (ok : ChO o) (k : Int) : Ct prog 111 [.agg (List.toArray (cfO o).enc), .int .i64 k] [] (fun r H' => r = .int .i64 (behindO o k) ∧ H' = []) := by
 have hp := dplaceO_ct ok k
 have hm := dmembersO_ct ok
 have hl := nodesO_len ok
 have hi := iplc_range (nodesO o) k
 obtain ⟨i, hii⟩ : ∃ i, iplc (nodesO o) k = i := ⟨_, rfl⟩
 refine Ct.mk' func111 rfl rfl rfl (fun g R => ?_)
 try simp only [ca]
 simp only [na]
 repeat' (first | refine run ?_ | refine bx rfl (fun _ => ?_) | refine WX.callQ rfl hp rfl ?_ | fail)
 refine WX.call rfl hm rfl ?_
 rintro v _ ⟨ms, h, hnd, -, hs, rfl⟩
 have hr := hs.rs
 obtain ⟨vp, vc, rfl⟩ := hr.len
 have hml : ms.length = (nodesO o).length := by rw [← hnd, length_map]
 simp only [ca, na]
 unfold behindO
 rw [hii] at hi ⊢
 by_cases h0 : i < 0
 ·rw [if_pos h0]
  try refine run ?_
  exact D.fin1 [] _ rfl rfl ⟨rfl, rfl⟩
 ·rw [if_neg h0]
  by_cases h1 : (ms.length : Int) ≤ i + 1
  ·have e : atL (nodesO o) (i + 1) = -1 := by unfold atL; rw [if_pos (.inr (by omega))]
   rw [e]
   try refine run ?_
   exact D.fin1 [] _ rfl rfl ⟨rfl, rfl⟩
  ·obtain ⟨m, hmk⟩ : ∃ m, ms[(i + 1).toNat]? = some m := ⟨_, List.getElem?_eq_getElem (by omega)⟩
   have e : atL (nodesO o) (i + 1) = m.nd := by
    unfold atL
    rw [if_neg (by omega), getD_eq_getElem?_getD, ← hnd, List.getElem?_map, hmk]; rfl
   rw [e]
   try refine run ?_
   exact D.fin1 [] _ rfl rfl ⟨rfl, rfl⟩
theorem dfull_ct {o : Option Ch} (ok : ChO o) (k : Int) : Ct prog 112 [.agg (List.toArray (cfO o).enc), .int .i64 k] [] (fun r H' => r = .bool (fullO o k) ∧ H' = []) := by
 have hp := dplaceO_ct ok k
 unfold fullO
 refine Ct.mk' func112 rfl rfl rfl (fun g R => ?_)
 try simp only [ca]
 simp only [na]
 by_cases h0 : 0 ≤ iplc (nodesO o) k
 ·by_cases h2 : iplc (nodesO o) k < (cfO o).n
  ·repeat' (first | refine run ?_ | refine bx rfl (fun _ => ?_) | refine WX.callQ rfl hp rfl ?_ | fail)
   exact D.fin1 [] _ rfl rfl ⟨by simp [h0, h2], rfl⟩
  ·repeat' (first | refine run ?_ | refine bx rfl (fun _ => ?_) | refine WX.callQ rfl hp rfl ?_ | fail)
   exact D.fin1 [] _ rfl rfl ⟨by simp [h0, h2], rfl⟩
 ·repeat' (first | refine run ?_ | refine bx rfl (fun _ => ?_) | refine WX.callQ rfl hp rfl ?_ | fail)
  exact D.fin1 [] _ rfl rfl ⟨by simp [h0], rfl⟩
theorem dsince_ct {o : Option Ch} (ok : ChO o) (k : Int) : Ct prog 115 [.agg (List.toArray (cfO o).enc), .int .i64 k] [] (fun r H' => r = .int .i64 (sinceO o k) ∧ H' = []) := by
 have hp := dplaceO_ct ok k
 have hmm := dmembersO_ct ok
 have hl := nodesO_len ok
 refine Ct.mk' func115 rfl rfl rfl (fun g R => ?_)
 try simp only [ca]
 simp only [na]
 cases o with
 | none =>
  have e : iplc (nodesO none) k = -1 := rfl
  rw [e] at hp
  repeat' (first | refine run ?_ | refine bx rfl (fun _ => ?_) | refine WX.callQ rfl hp rfl ?_ | fail)
  exact D.fin1 [] _ rfl rfl ⟨rfl, rfl⟩
 | some c =>
  have okc := ok c rfl
  rw [show iplc (nodesO (some c)) k = plc c.all k from iplc_plc] at hp
  cases hf : c.all.findIdx? (fun p => decide (p.nd = k)) with
  | none =>
   have e : plc c.all k = -1 := by unfold plc; rw [hf]
   have e2 : sinceO (some c) k = 0 := by unfold sinceO; simp only []; rw [hf]
   rw [e] at hp
   rw [e2]
   repeat' (first | refine run ?_ | refine bx rfl (fun _ => ?_) | refine WX.callQ rfl hp rfl ?_ | fail)
   exact D.fin1 [] _ rfl rfl ⟨rfl, rfl⟩
  | some j =>
   have e : plc c.all k = (j : Int) := by unfold plc; rw [hf]
   obtain ⟨hj, _⟩ := List.findIdx?_eq_some_iff_getElem.1 hf
   obtain ⟨m, hm⟩ : ∃ m, c.all[j]? = some m := ⟨_, List.getElem?_eq_getElem hj⟩
   have e2 : sinceO (some c) k = m.sn := by unfold sinceO; simp only []; rw [hf]; simp only [getD_eq_getElem?_getD, hm, Option.getD_some]
   rw [e] at hp
   rw [e2]
   repeat' (first | refine run ?_ | refine bx rfl (fun _ => ?_) | refine WX.callQ rfl hp rfl ?_ | fail)
   refine WX.call rfl hmm rfl ?_
   rintro _ _ ⟨ms, h2, -, hmc, hs2, rfl⟩
   obtain rfl := hmc c rfl
   have hr2 := hs2.rs
   simp only [ca, na]
   try refine run ?_
   exact D.fin1 [] _ rfl rfl ⟨rfl, rfl⟩
abbrev DsBk (b : Nat) (s : CS) (v : Value) : Hp := [(b, .cells (List.toArray (s.cells v)) 105 (0, 0))]
theorem atL_neg {xs : List Int} {i : Int} (h : xs = []) : atL xs i = -1 := by
 subst h
 unfold atL
 rw [if_pos]
 by_cases h : i < 0
 ·exact .inl h
 ·exact .inr (by show ((0 : Nat) : Int) ≤ i; omega)
theorem atL_mem {xs : List Int} {i : Int} (h0 : 0 ≤ i) (h1 : i < (xs.length : Int)) : atL xs i ∈ xs := by
 unfold atL
 rw [if_neg (by omega), getD_eq_getElem?_getD, List.getElem?_eq_getElem (by omega), Option.getD_some]
 exact getElem_mem _
theorem nodes_nn {c : Ch} (ok : ChOk c) {x : Int} (h : x ∈ nodesO (some c)) : 0 ≤ x := by
 obtain ⟨m, hm, rfl⟩ := mem_map.1 h
 exact (ok.rg m hm).1
theorem last_iff {s : CS} (ok : ChO s.co) : s.last ↔ 0 < (cfO s.co).ep ∧ lastO s.co = s.nd := by
 unfold CS.last
 cases hc : s.co with
 | none =>
  have e : lastO none = -1 := atL_neg rfl
  have e2 : (cfO none).ep = 0 := rfl
  rw [e, e2]
  constructor <;> rintro ⟨h1, h2⟩ <;> omega
 | some c =>
  have okc := ok c hc
  have e2 : (cfO (some c)).ep = c.ep := rfl
  have h1 := okc.e1
  have h2 := okc.l1
  have hm : lastO (some c) ∈ nodesO (some c) := by
   unfold lastO
   have hn : (cfO (some c)).n = (c.ms.length : Int) := rfl
   have hl : c.ms.length ≤ (nodesO (some c)).length := by show _ ≤ (c.all.map (·.nd)).length; rw [length_map]; unfold Ch.all; rw [length_append]; omega
   exact atL_mem (by omega) (by omega)
  have h3 := nodes_nn okc hm
  rw [e2]
  constructor <;> rintro ⟨q1, q2⟩ <;> refine ⟨?_, q2⟩ <;> omega
theorem head_iff {s : CS} (ok : ChO s.co) : s.head ↔ 0 < (cfO s.co).ep ∧ headO s.co = s.nd := by
 unfold CS.head
 cases hc : s.co with
 | none =>
  have e : headO none = -1 := atL_neg rfl
  have e2 : (cfO none).ep = 0 := rfl
  rw [e, e2]
  constructor <;> rintro ⟨h1, h2⟩ <;> omega
 | some c =>
  have okc := ok c hc
  have e2 : (cfO (some c)).ep = c.ep := rfl
  have h1 := okc.e1
  have h2 := okc.l1
  have hm : headO (some c) ∈ nodesO (some c) := by
   unfold headO
   have hl : c.ms.length ≤ (nodesO (some c)).length := by show _ ≤ (c.all.map (·.nd)).length; rw [length_map]; unfold Ch.all; rw [length_append]; omega
   exact atL_mem (by omega) (by omega)
  have h3 := nodes_nn okc hm
  rw [e2]
  constructor <;> rintro ⟨q1, q2⟩ <;> refine ⟨?_, q2⟩ <;> omega
theorem disLast_ct {s : CS} (ok : ChO s.co) (b : Nat) (v : Value) : Ct prog 170 [.pointer (some ⟨b, 0, none⟩)] [DsBk b s v] (fun r H' => r = .bool (decide s.last) ∧ H' = [DsBk b s v]) := by
 have hl := dlast_ct ok
 rw [show decide s.last = decide (0 < (cfO s.co).ep ∧ lastO s.co = s.nd) by rw [decide_eq_decide]; exact last_iff ok]
 refine Ct.mk' func170 rfl rfl rfl (fun g R => ?_)
 try simp only [ca]
 simp only [na]
 by_cases h0 : 0 < (cfO s.co).ep
 ·try refine runS ?_
  refine W.quiet Tryz.mix (by kernel_rfl) ?_
  repeat' (first | refine runS ?_ | refine lAN (s.cells v) (cfO s.co).enc rfl ?_ | refine WX.callQ rfl hl rfl ?_ | fail)
  exact D.fin1 [DsBk b s v] _ rfl rfl ⟨by simp [h0], rfl⟩
 ·try refine runS ?_
  refine W.quiet Tryz.mix (by kernel_rfl) ?_
  try refine runS ?_
  exact D.fin1 [DsBk b s v] _ rfl rfl ⟨by simp [h0], rfl⟩
theorem disHead_ct {s : CS} (ok : ChO s.co) (b : Nat) (v : Value) : Ct prog 158 [.pointer (some ⟨b, 0, none⟩)] [DsBk b s v] (fun r H' => r = .bool (decide s.head) ∧ H' = [DsBk b s v]) := by
 have hl := dhead_ct ok
 rw [show decide s.head = decide (0 < (cfO s.co).ep ∧ headO s.co = s.nd) by rw [decide_eq_decide]; exact head_iff ok]
 refine Ct.mk' func158 rfl rfl rfl (fun g R => ?_)
 try simp only [ca]
 simp only [na]
 by_cases h0 : 0 < (cfO s.co).ep
 ·try refine runS ?_
  refine W.quiet Tryz.mix (by kernel_rfl) ?_
  repeat' (first | refine runS ?_ | refine lAN (s.cells v) (cfO s.co).enc rfl ?_ | refine WX.callQ rfl hl rfl ?_ | fail)
  exact D.fin1 [DsBk b s v] _ rfl rfl ⟨by simp [h0], rfl⟩
 ·try refine runS ?_
  refine W.quiet Tryz.mix (by kernel_rfl) ?_
  try refine runS ?_
  exact D.fin1 [DsBk b s v] _ rfl rfl ⟨by simp [h0], rfl⟩
theorem dsettle_ct {s : CS} (ok : ChO s.co) (b : Nat) (v : Value) : Ct prog 113 [.pointer (some ⟨b, 0, none⟩)] [DsBk b s v] (fun r H' => r = .tuple #[] ∧ H' = [DsBk b s.settle v]) := by
 have hl := disLast_ct ok b v
 refine Ct.mk' func113 rfl rfl rfl (fun g R => ?_)
 try simp only [ca]
 simp only [na]
 by_cases h0 : s.last
 ·rw [decide_eq_true h0] at hl
  cases hj : (cfO s.co).jo with
  | false =>
   have e : s.settle = { s with su := true, st := s.du } := by unfold CS.settle; rw [if_pos h0, if_pos hj]
   rw [e]
   repeat' (first | refine runS ?_ | refine WX.callQ rfl hl rfl ?_ | fail)
   rw [hj]
   try refine runS ?_
   refine I.st ?_
   refine stN (s.cells v) (CS.cells { s with su := true } v) rfl rfl ?_
   try refine runS ?_
   refine I.st ?_
   refine stN (CS.cells { s with su := true } v) (CS.cells { s with su := true, st := s.du } v) rfl rfl ?_
   try refine runS ?_
   first | exact D.finE [DsBk b ({ s with su := true, st := s.du } : CS) v] _ rfl ⟨rfl, rfl⟩ | exact D.fin0 [DsBk b ({ s with su := true, st := s.du } : CS) v] _ rfl ⟨rfl, rfl⟩
  | true =>
   cases hs : s.su with
   | true =>
    have e : s.settle = { s with st := mx s.st s.bs } := by unfold CS.settle; rw [if_pos h0, if_neg (by rw [hj]; decide), if_pos hs]
    rw [e]
    repeat' (first | refine runS ?_ | refine WX.callQ rfl hl rfl ?_ | fail)
    rw [hj]
    try refine runS ?_
    rw [hs]
    try refine runS ?_
    refine W.mixN 8 (List.replicate 10 true) [DsBk b s v] Tryz.mix (by kernel_rfl) ?_
    try refine runS ?_
    refine I.st ?_
    refine stN (s.cells v) (CS.cells { s with st := mx s.st s.bs } v) rfl rfl ?_
    try refine runS ?_
    exact D.finE [DsBk b ({ s with st := mx s.st s.bs } : CS) v] _ rfl ⟨rfl, by rw [hs]⟩
   | false =>
    have e : s.settle = s := by unfold CS.settle; rw [if_pos h0, if_neg (by rw [hj]; decide), if_neg (by rw [hs]; decide)]
    rw [e]
    repeat' (first | refine runS ?_ | refine WX.callQ rfl hl rfl ?_ | fail)
    rw [hj]
    try refine runS ?_
    rw [hs]
    try refine runS ?_
    first | exact D.finE [DsBk b s v] _ rfl ⟨rfl, rfl⟩ | exact D.fin0 [DsBk b s v] _ rfl ⟨rfl, rfl⟩
 ·rw [decide_eq_false h0] at hl
  have e : s.settle = s := if_neg h0
  rw [e]
  repeat' (first | refine runS ?_ | refine WX.callQ rfl hl rfl ?_ | fail)
  first | exact D.finE [DsBk b s v] _ rfl ⟨rfl, rfl⟩ | exact D.fin0 [DsBk b s v] _ rfl ⟨rfl, rfl⟩
theorem dcnew_ct (dc rg nd : Int) : Ct prog 47 [.int .i64 dc, .int .i64 rg, .int .i64 nd] [] (fun r H' => ∃ b, r = .pointer (some ⟨b, 0, none⟩) ∧ H' = [DsBk b (CS.new dc rg nd) (.slice none 0 0)]) := by
 refine Ct.mk' func47 rfl rfl rfl (fun g R => ?_)
 try simp only [ca]
 simp only [na]
 repeat' (first | refine runS ?_ | refine bx rfl (fun _ => ?_) | refine bdN ((CS.new dc rg nd).cells (.slice none 0 0)) ?_ | fail)
 rename_i b
 exact D.fin1 [DsBk b (CS.new dc rg nd) (.slice none 0 0)] _ rfl rfl ⟨b, rfl, rfl⟩
theorem dccolumn_ct (s : CS) (b : Nat) {v : Value} {hv : Hp} (hs : Rs s.lg v hv) (hl : s.lg.length ≤ 1000000) : Ct prog 159 [.pointer (some ⟨b, 0, none⟩)] [DsBk b s v, hv] (fun r H' => r = .agg (List.toArray (colF s.rg s.lg).enc) ∧ H' = [DsBk b s v, hv]) := by
 have hc := dcolumn_ct s.rg hs hl
 generalize colF s.rg s.lg = o at hc ⊢
 refine Ct.mk' func159 rfl rfl rfl (fun g R => ?_)
 try simp only [ca]
 simp only [na]
 repeat' (first | refine runS ?_ | refine al (fun _ => ?_) | fail)
 refine W.mixN 8 (List.replicate 8 true ++ [false]) [DsBk b s v] Tryz.mix (by kernel_rfl) ?_
 try refine runS ?_
 refine WX.callQ rfl hc rfl ?_
 repeat' (first | refine runS ?_ | refine sGW V3.z.enc o.enc rfl rfl ?_ | fail)
 exact D.finR1 [DsBk b s v, hv] _ rfl (.cellA rfl rfl .nil) ⟨rfl, rfl⟩
def DsPost (s : CS) (b : Nat) (H' : HH) : Prop := ∃ v hv, H' = [DsBk b s v, hv] ∧ IsSl 43 s.lg v hv
theorem dcsync_ct {s : CS} (ok : CsOk s) (b : Nat) {v : Value} {hv : Hp} (hs : IsSl 43 s.lg v hv) : Ct prog 109 [.pointer (some ⟨b, 0, none⟩)] [DsBk b s v, hv] (fun r H' => r = .tuple #[] ∧ DsPost s.sync b H') := by
 have hr := hs.rs
 have hse := dsettle_ct (s := { s with du := s.len }) ok.co b v
 have hlg : s.sync.lg = s.lg := (settle_same ({ s with du := s.len } : CS)).2.2.2.2.2.2.1
 refine Ct.mk' func109 rfl rfl rfl (fun g R => ?_)
 try simp only [ca]
 simp only [na]
 try refine runS ?_
 refine I.st ?_
 refine stN (s.cells v) (CS.cells { s with du := s.len } v) rfl rfl ?_
 try refine runS ?_
 refine WX.call rfl hse rfl ?_
 rintro _ _ ⟨rfl, rfl⟩
 simp only [ca, na]
 try refine runS ?_
 exact D.finE [DsBk b (CS.settle { s with du := s.len }) v, hv] _ rfl ⟨rfl, v, hv, rfl, by rw [hlg]; exact hs⟩
theorem ahead_ep {o : Option Ch} (ok : ChO o) {n : Int} (h : 0 ≤ aheadO o n) : 1 ≤ (cfO o).ep := by
 cases o with
 | none =>
  have e : aheadO none n = -1 := atL_neg rfl; rw [e] at h; exact absurd h (by decide)
 | some c => exact (ok c rfl).e1
theorem behind_ep {o : Option Ch} (ok : ChO o) {n : Int} (h : 0 ≤ behindO o n) : 1 ≤ (cfO o).ep := by
 cases o with
 | none =>
  have e : behindO none n = -1 := by unfold behindO; split <;> first | rfl | exact atL_neg rfl
  rw [e] at h; exact absurd h (by decide)
 | some c => exact (ok c rfl).e1
def CS.dtake (s : CS) (from_ ep ix : Int) (e : Ent) : Bool × CS :=
 if s.takes from_ ep ix e then (true, s.push e) else (false, s)
set_option maxRecDepth 10000 in
set_option maxHeartbeats 1000000 in
theorem dctake_ct {s : CS} (ok : CsOk s) (b : Nat) {v : Value} {hv : Hp} (hs : IsSl 43 s.lg v hv) (fr ep ix : Int) (e : Ent) :
  Ct prog 108 [.pointer (some ⟨b, 0, none⟩), .int .i64 fr, .int .i64 ep, .int .i64 ix, .agg (List.toArray e.enc)] [DsBk b s v, hv] (fun r H' => r = .bool (s.dtake fr ep ix e).1 ∧ DsPost (s.dtake fr ep ix e).2 b H') := by
 have hr := hs.rs
 have hah := dahead_ct ok.co s.nd
 have hen := dentR_ct e
 have hll := ok.len
 have hlen : s.len = (s.lg.length : Int) := rfl
 by_cases hT : s.takes fr ep ix e
 ·have e0 : s.dtake fr ep ix e = (true, s.push e) := if_pos hT
  rw [e0]
  obtain ⟨t1, t2, t3, t4, t5, t6⟩ := hT
  have t0 := ahead_ep ok.co (n := s.nd) (by omega)
  rw [decide_eq_true t5] at hen
  generalize aheadO s.co s.nd = ah at hah t3
  refine Ct.mk' func108 rfl rfl rfl (fun g R => ?_)
  try simp only [ca]
  simp only [na]
  repeat' (first | refine runS ?_ | refine bx rfl (fun _ => ?_) | fail)
  rename_i b9
  refine W.quiet Tryz.mix (by kernel_rfl) ?_
  repeat' (first | refine runS ?_ | refine lAN (t := 34) (s.cells v) (cfO s.co).enc rfl ?_ | refine lAN (t := 43) e.enc e.enc rfl ?_ | refine WX.callQ rfl hah rfl ?_ | refine WX.callQ rfl hen rfl ?_ | fail)
  refine W.mixN 8 [true, true, true, true, true, true, false, false] [DsBk b s v, EnBk b9 e] Tryz.mix (by kernel_rfl) ?_
  repeat' (first | refine runS ?_ | refine lAN (t := 43) e.enc e.enc rfl ?_ | fail)
  refine I.bs ?_
  refine WX.lit (ys := [e]) rfl rfl rfl rfl rfl rfl (by decide) rfl (fun v2 h2 hs2 => ?_)
  try refine runS ?_
  refine WX.app rfl rfl hs hs2.rs rfl rfl (by decide) (by simp only [length_cons, length_nil]; omega) rfl (fun v3 h3 hs3 => ?_)
  obtain ⟨p3, c3, e3⟩ := hs3.rs.len
  subst e3
  try refine runS ?_
  refine I.st ?_
  refine stN (s.cells v) (CS.cells (s.push e) (.slice p3 (s.lg ++ [e]).length c3)) rfl rfl ?_
  try refine runS ?_
  exact D.fin1 [DsBk b (s.push e) (.slice p3 (s.lg ++ [e]).length c3), h3] _ rfl rfl ⟨rfl, _, h3, rfl, hs3⟩
 ·have e0 : s.dtake fr ep ix e = (false, s) := if_neg hT
  rw [e0]
  refine Ct.mk' func108 rfl rfl rfl (fun g R => ?_)
  try simp only [ca]
  simp only [na]
  repeat' (first | refine runS ?_ | refine bx rfl (fun _ => ?_) | fail)
  refine W.quiet Tryz.mix (by kernel_rfl) ?_
  by_cases t0 : (cfO s.co).ep = 0
  ·skip
   try refine runS ?_
   exact D.fin1 [DsBk b s v, hv] _ rfl rfl ⟨rfl, v, hv, rfl, hs⟩
  by_cases t1 : ep = (cfO s.co).ep
  rotate_left
  ·skip
   try refine runS ?_
   exact D.fin1 [DsBk b s v, hv] _ rfl rfl ⟨rfl, v, hv, rfl, hs⟩
  by_cases t2 : 0 ≤ fr
  rotate_left
  ·skip
   try refine runS ?_
   exact D.fin1 [DsBk b s v, hv] _ rfl rfl ⟨rfl, v, hv, rfl, hs⟩
  by_cases t3 : fr = aheadO s.co s.nd
  rotate_left
  ·skip
   repeat' (first | refine runS ?_ | refine lAN (t := 34) (s.cells v) (cfO s.co).enc rfl ?_ | refine WX.callQ rfl hah rfl ?_ | fail)
   exact D.fin1 [DsBk b s v, hv] _ rfl rfl ⟨rfl, v, hv, rfl, hs⟩
  by_cases t4 : ix = s.len + 1
  rotate_left
  ·skip
   repeat' (first | refine runS ?_ | refine lAN (t := 34) (s.cells v) (cfO s.co).enc rfl ?_ | refine WX.callQ rfl hah rfl ?_ | fail)
   exact D.fin1 [DsBk b s v, hv] _ rfl rfl ⟨rfl, v, hv, rfl, hs⟩
  by_cases t6 : s.len < 256
  rotate_left
  ·skip
   repeat' (first | refine runS ?_ | refine lAN (t := 34) (s.cells v) (cfO s.co).enc rfl ?_ | refine WX.callQ rfl hah rfl ?_ | fail)
   exact D.fin1 [DsBk b s v, hv] _ rfl rfl ⟨rfl, v, hv, rfl, hs⟩
  by_cases t5 : EntR e
  ·exact absurd ⟨t1, t2, t3, t4, t5, t6⟩ hT
  ·rw [decide_eq_false t5] at hen
   skip
   repeat' (first | refine runS ?_ | refine lAN (t := 34) (s.cells v) (cfO s.co).enc rfl ?_ | refine lAN (t := 43) e.enc e.enc rfl ?_ | refine WX.callQ rfl hah rfl ?_ | refine WX.callQ rfl hen rfl ?_ | fail)
   exact D.fin1 [DsBk b s v, hv] _ rfl rfl ⟨rfl, v, hv, rfl, hs⟩
set_option maxRecDepth 10000 in
set_option maxHeartbeats 1000000 in
theorem dcheard_ct {s : CS} (ok : CsOk s) (b : Nat) (v : Value) (fr ep du st : Int) :
  Ct prog 58 [.pointer (some ⟨b, 0, none⟩), .int .i64 fr, .int .i64 ep, .int .i64 du, .int .i64 st] [DsBk b s v] (fun r H' => r = .bool (s.heard fr ep du st).1 ∧ H' = [DsBk b (s.heard fr ep du st).2 v]) := by
 have hbh := dbehind_ct ok.co s.nd
 have hfu := dfull_ct ok.co fr
 by_cases hT : ep = (cfO s.co).ep ∧ 0 ≤ fr ∧ fr = behindO s.co s.nd
 ·have e0 : s.heard fr ep du st = (true, (s.heard0 fr (mn du s.du) (mn st s.du)).settle) := if_pos hT
  rw [e0]
  obtain ⟨t1, t2, t3⟩ := hT
  have t0 := behind_ep ok.co (n := s.nd) (by omega)
  generalize behindO s.co s.nd = bh at hbh t3
  refine Ct.mk' func58 rfl rfl rfl (fun g R => ?_)
  try simp only [ca]
  simp only [na]
  try refine runS ?_
  cases hf : fullO s.co fr with
  | true =>
   rw [hf] at hfu
   have e1 : s.heard0 fr (mn du s.du) (mn st s.du) = { s with ak := mx s.ak (mn du s.du), st := mx s.st (mn st s.du) } := if_pos hf
   rw [e1]
   skip
   refine W.quiet Tryz.mix (by kernel_rfl) ?_
   skip
   repeat' (first | refine runS ?_ | refine lAN (t := 34) (s.cells v) (cfO s.co).enc rfl ?_ | refine WX.callQ rfl hbh rfl ?_ | fail)
   refine I.st ?_
   refine stN (s.cells v) (CS.cells { s with ak := mx s.ak (mn du s.du) } v) rfl rfl ?_
   repeat' (first | refine runS ?_ | refine lAN (t := 34) (CS.cells { s with ak := mx s.ak (mn du s.du) } v) (cfO s.co).enc rfl ?_ | refine WX.callQ rfl hfu rfl ?_ | fail)
   refine W.mixN 8 (List.replicate 12 true) [DsBk b { s with ak := mx s.ak (mn du s.du) } v] Tryz.mix (by kernel_rfl) ?_
   try refine runS ?_
   refine I.st ?_
   refine stN (CS.cells { s with ak := mx s.ak (mn du s.du) } v) (CS.cells { s with ak := mx s.ak (mn du s.du), st := mx s.st (mn st s.du) } v) rfl rfl ?_
   try refine runS ?_
   refine WX.call rfl (dsettle_ct (s := { s with ak := mx s.ak (mn du s.du), st := mx s.st (mn st s.du) }) ok.co b v) rfl ?_
   rintro _ _ ⟨rfl, rfl⟩
   simp only [ca, na]
   try refine runS ?_
   exact D.fin1 [DsBk b (CS.settle ({ s with ak := mx s.ak (mn du s.du), st := mx s.st (mn st s.du) })) v] _ rfl rfl ⟨rfl, rfl⟩
  | false =>
   rw [hf] at hfu
   cases hsu : s.su with
   | true =>
    have e1 : s.heard0 fr (mn du s.du) (mn st s.du) = { s with ak := mx s.ak (mn du s.du), su := true, st := mx (mx s.st s.bs) (mn du s.du) } := by unfold CS.heard0; rw [if_neg (by rw [hf]; decide), if_pos (.inl hsu)]
    rw [e1]
    clear e0 e1
    skip
    refine W.quiet Tryz.mix (by kernel_rfl) ?_
    skip
    repeat' (first | refine runS ?_ | refine lAN (t := 34) (s.cells v) (cfO s.co).enc rfl ?_ | refine WX.callQ rfl hbh rfl ?_ | fail)
    refine I.st ?_
    refine stN (s.cells v) (CS.cells { s with ak := mx s.ak (mn du s.du) } v) rfl rfl ?_
    repeat' (first | refine runS ?_ | refine lAN (t := 34) (CS.cells { s with ak := mx s.ak (mn du s.du) } v) (cfO s.co).enc rfl ?_ | refine WX.callQ rfl hfu rfl ?_ | fail)
    refine WX.as 83 (.bool true) rfl (by rw [hsu]) ?_
    skip
    try refine runS ?_
    refine I.st ?_
    refine stN (CS.cells { s with ak := mx s.ak (mn du s.du) } v) (CS.cells { s with ak := mx s.ak (mn du s.du), su := true } v) rfl rfl ?_
    try refine runS ?_
    refine W.mixN 8 (List.replicate 11 true) [DsBk b { s with ak := mx s.ak (mn du s.du), su := true } v] Tryz.mix (by kernel_rfl) ?_
    repeat' (first | refine runS ?_ | refine WX.max3 rfl rfl rfl rfl ?_ | fail)
    refine I.st ?_
    refine stN (CS.cells { s with ak := mx s.ak (mn du s.du), su := true } v) (CS.cells { s with ak := mx s.ak (mn du s.du), su := true, st := mx (mx s.st s.bs) (mn du s.du) } v) rfl rfl ?_
    try refine runS ?_
    refine WX.call rfl (dsettle_ct (s := { s with ak := mx s.ak (mn du s.du), su := true, st := mx (mx s.st s.bs) (mn du s.du) }) ok.co b v) rfl ?_
    rintro _ _ ⟨rfl, rfl⟩
    simp only [ca, na]
    try refine runS ?_
    exact D.fin1 [DsBk b (CS.settle ({ s with ak := mx s.ak (mn du s.du), su := true, st := mx (mx s.st s.bs) (mn du s.du) })) v] _ rfl rfl ⟨rfl, rfl⟩
   | false =>
    by_cases hw : (if s.du < du then s.du else du) ≥ s.ow
    ·have e1 : s.heard0 fr (mn du s.du) (mn st s.du) = { s with ak := mx s.ak (mn du s.du), su := true, st := mx (mx s.st s.bs) (mn du s.du) } := by unfold CS.heard0; rw [if_neg (by rw [hf]; decide), if_pos (.inr hw)]
     rw [e1]
     clear e0 e1
     skip
     refine W.quiet Tryz.mix (by kernel_rfl) ?_
     skip
     repeat' (first | refine runS ?_ | refine lAN (t := 34) (s.cells v) (cfO s.co).enc rfl ?_ | refine WX.callQ rfl hbh rfl ?_ | fail)
     refine I.st ?_
     refine stN (s.cells v) (CS.cells { s with ak := mx s.ak (mn du s.du) } v) rfl rfl ?_
     repeat' (first | refine runS ?_ | refine lAN (t := 34) (CS.cells { s with ak := mx s.ak (mn du s.du) } v) (cfO s.co).enc rfl ?_ | refine WX.callQ rfl hfu rfl ?_ | fail)
     refine WX.as 83 (.bool false) rfl (by rw [hsu]) ?_
     skip
     try refine runS ?_
     refine I.st ?_
     refine stN (CS.cells { s with ak := mx s.ak (mn du s.du) } v) (CS.cells { s with ak := mx s.ak (mn du s.du), su := true } v) rfl rfl ?_
     try refine runS ?_
     refine W.mixN 8 (List.replicate 11 true) [DsBk b { s with ak := mx s.ak (mn du s.du), su := true } v] Tryz.mix (by kernel_rfl) ?_
     repeat' (first | refine runS ?_ | refine WX.max3 rfl rfl rfl rfl ?_ | fail)
     refine I.st ?_
     refine stN (CS.cells { s with ak := mx s.ak (mn du s.du), su := true } v) (CS.cells { s with ak := mx s.ak (mn du s.du), su := true, st := mx (mx s.st s.bs) (mn du s.du) } v) rfl rfl ?_
     try refine runS ?_
     refine WX.call rfl (dsettle_ct (s := { s with ak := mx s.ak (mn du s.du), su := true, st := mx (mx s.st s.bs) (mn du s.du) }) ok.co b v) rfl ?_
     rintro _ _ ⟨rfl, rfl⟩
     simp only [ca, na]
     try refine runS ?_
     exact D.fin1 [DsBk b (CS.settle ({ s with ak := mx s.ak (mn du s.du), su := true, st := mx (mx s.st s.bs) (mn du s.du) })) v] _ rfl rfl ⟨rfl, rfl⟩
    ·have e1 : s.heard0 fr (mn du s.du) (mn st s.du) = { s with ak := mx s.ak (mn du s.du) } := by
      unfold CS.heard0; rw [if_neg (by rw [hf]; decide), if_neg (fun h => h.elim (fun h => by rw [hsu] at h; cases h) hw)]
     rw [e1]
     clear e0 e1
     skip
     refine W.quiet Tryz.mix (by kernel_rfl) ?_
     skip
     repeat' (first | refine runS ?_ | refine lAN (t := 34) (s.cells v) (cfO s.co).enc rfl ?_ | refine WX.callQ rfl hbh rfl ?_ | fail)
     refine I.st ?_
     refine stN (s.cells v) (CS.cells { s with ak := mx s.ak (mn du s.du) } v) rfl rfl ?_
     repeat' (first | refine runS ?_ | refine lAN (t := 34) (CS.cells { s with ak := mx s.ak (mn du s.du) } v) (cfO s.co).enc rfl ?_ | refine WX.callQ rfl hfu rfl ?_ | fail)
     refine WX.as 83 (.bool false) rfl (by rw [hsu]) ?_
     try refine runS ?_
     refine WX.call rfl (dsettle_ct (s := { s with ak := mx s.ak (mn du s.du) }) ok.co b v) rfl ?_
     rintro _ _ ⟨rfl, rfl⟩
     simp only [ca, na]
     try refine runS ?_
     exact D.fin1 [DsBk b (CS.settle ({ s with ak := mx s.ak (mn du s.du) })) v] _ rfl rfl ⟨rfl, rfl⟩
 ·have e0 : s.heard fr ep du st = (false, s) := if_neg hT
  rw [e0]
  clear e0
  refine Ct.mk' func58 rfl rfl rfl (fun g R => ?_)
  try simp only [ca]
  simp only [na]
  try refine runS ?_
  refine W.quiet Tryz.mix (by kernel_rfl) ?_
  by_cases t0 : (cfO s.co).ep = 0
  ·skip
   skip
   try refine runS ?_
   exact D.fin1 [DsBk b s v] _ rfl rfl ⟨rfl, rfl⟩
  by_cases t1 : ep = (cfO s.co).ep
  rotate_left
  ·skip
   skip
   try refine runS ?_
   exact D.fin1 [DsBk b s v] _ rfl rfl ⟨rfl, rfl⟩
  by_cases t2 : 0 ≤ fr
  rotate_left
  ·skip
   skip
   try refine runS ?_
   exact D.fin1 [DsBk b s v] _ rfl rfl ⟨rfl, rfl⟩
  by_cases t3 : fr = behindO s.co s.nd
  ·exact absurd ⟨t1, t2, t3⟩ hT
  ·skip
   skip
   repeat' (first | refine runS ?_ | refine lAN (t := 34) (s.cells v) (cfO s.co).enc rfl ?_ | refine WX.callQ rfl hbh rfl ?_ | fail)
   exact D.fin1 [DsBk b s v] _ rfl rfl ⟨rfl, rfl⟩
set_option maxRecDepth 10000 in
set_option maxHeartbeats 1000000 in
theorem dcrestore_ct (dc rg nd : Int) (x : Cfg) (sn bs : Int) {es : List Ent} {u : Value} {h : Hp} (hs : Rs es u h) (hl : es.length ≤ 1000000) :
  Ct prog 116 [.int .i64 dc, .int .i64 rg, .int .i64 nd, .agg (List.toArray x.enc), .int .i64 sn, .int .i64 bs, u] [h]
   (fun r H' => ∃ b v hv, r = .pointer (some ⟨b, 0, none⟩) ∧ H' = [DsBk b (CS.restore dc rg nd x sn bs es) v, hv, h] ∧ IsSl 43 (CS.restore dc rg nd x sn bs es).lg v hv) := by
 have hlg : (CS.restore dc rg nd x sn bs es).lg = es := (settle_same (CS.restore0 dc rg nd x sn bs es)).2.2.2.2.2.2.1
 have hrt := drightG_ct x
 obtain ⟨up, uc, rfl⟩ := hs.len
 by_cases hR : RightC x
 ·rw [decide_eq_true hR] at hrt
  obtain ⟨c, hcx, okc, hch⟩ := rightC_ch hR
  have hr0 : CS.restore dc rg nd x sn bs es = CS.settle ⟨dc, rg, nd, some c, sn, mx 0 (mn bs (es.length : Int)), es, (es.length : Int), 0, 0, (es.length : Int), false⟩ := by
   unfold CS.restore CS.restore0; rw [if_pos hR, hch]
  have hO : ChO (some c) := ChO.some okc
  rw [hr0] at hlg ⊢
  subst hcx
  clear hch hr0 hR
  refine Ct.mk' func116 rfl rfl rfl (fun g R => ?_)
  try simp only [ca]
  simp only [na]
  repeat' (first | refine runS ?_ | refine bx rfl (fun _ => ?_) | fail)
  rename_i b10
  refine WX.call rfl (dcnew_ct dc rg nd) rfl ?_
  rintro _ _ ⟨b, rfl, rfl⟩
  simp only [ca, na]
  repeat' (first | refine runS ?_ | refine lAN c.cfg.enc c.cfg.enc rfl ?_ | refine WX.callQ rfl hrt rfl ?_ | fail)
  refine I.st ?_
  refine sGN ((CS.new dc rg nd).cells (.slice none 0 0)) c.cfg.enc (CS.cells ⟨dc, rg, nd, some c, 0, 0, [], 0, 0, 0, 0, false⟩ (.slice none 0 0)) rfl rfl ?_
  try refine runS ?_
  refine I.st ?_
  refine stN (CS.cells ⟨dc, rg, nd, (some c), 0, 0, [], 0, 0, 0, 0, false⟩ (.slice none 0 0)) (CS.cells ⟨dc, rg, nd, (some c), sn, 0, [], 0, 0, 0, 0, false⟩ (.slice none 0 0)) rfl rfl ?_
  try refine runS ?_
  refine WX.nilH ?_
  refine WX.app rfl rfl (show IsSl 43 ([] : List Ent) (.slice none 0 0) [] from IsSl.nil _) hs rfl rfl (by decide) (by show (2 * (0 + es.length) + 256) * _ ≤ _; omega) rfl (fun v1 h1 hs1 => ?_)
  rw [nil_append] at hs1
  obtain ⟨p1, c1, e1⟩ := hs1.rs.len
  subst e1
  try refine runS ?_
  refine I.st ?_
  refine stN (CS.cells ⟨dc, rg, nd, (some c), sn, 0, [], 0, 0, 0, 0, false⟩ (.slice none 0 0)) (CS.cells ⟨dc, rg, nd, (some c), sn, 0, es, 0, 0, 0, 0, false⟩ (.slice p1 es.length c1)) rfl rfl ?_
  try refine runS ?_
  refine I.st ?_
  refine stN (CS.cells ⟨dc, rg, nd, (some c), sn, 0, es, 0, 0, 0, 0, false⟩ (.slice p1 es.length c1)) (CS.cells ⟨dc, rg, nd, (some c), sn, 0, es, (es.length : Int), 0, 0, 0, false⟩ (.slice p1 es.length c1)) rfl rfl ?_
  try refine runS ?_
  refine I.st ?_
  refine stN (CS.cells ⟨dc, rg, nd, (some c), sn, 0, es, (es.length : Int), 0, 0, 0, false⟩ (.slice p1 es.length c1)) (CS.cells ⟨dc, rg, nd, (some c), sn, 0, es, (es.length : Int), 0, 0, (es.length : Int), false⟩ (.slice p1 es.length c1)) rfl rfl ?_
  try refine runS ?_
  refine I.st ?_
  refine stN (CS.cells ⟨dc, rg, nd, (some c), sn, 0, es, (es.length : Int), 0, 0, (es.length : Int), false⟩ (.slice p1 es.length c1)) (CS.cells ⟨dc, rg, nd, (some c), sn, mx 0 (mn bs (es.length : Int)), es, (es.length : Int), 0, 0, (es.length : Int), false⟩ (.slice p1 es.length c1)) rfl rfl ?_
  try refine runS ?_
  refine WX.call rfl (dsettle_ct (s := ⟨dc, rg, nd, (some c), sn, mx 0 (mn bs (es.length : Int)), es, (es.length : Int), 0, 0, (es.length : Int), false⟩) hO b (.slice p1 es.length c1)) rfl ?_
  rintro _ _ ⟨rfl, rfl⟩
  simp only [ca, na]
  try refine runS ?_
  exact D.fin1 [DsBk b (CS.settle ⟨dc, rg, nd, (some c), sn, mx 0 (mn bs (es.length : Int)), es, (es.length : Int), 0, 0, (es.length : Int), false⟩) (.slice p1 es.length c1), h1, h] _ rfl rfl ⟨b, .slice p1 es.length c1, h1, rfl, rfl, by rw [hlg]; exact hs1⟩
 ·rw [decide_eq_false hR] at hrt
  have hr0 : CS.restore dc rg nd x sn bs es = CS.settle ⟨dc, rg, nd, none, sn, mx 0 (mn bs (es.length : Int)), es, (es.length : Int), 0, 0, (es.length : Int), false⟩ := by
   unfold CS.restore CS.restore0; rw [if_neg hR]
  have hO : ChO none := ChO.none
  rw [hr0] at hlg ⊢
  clear hr0
  refine Ct.mk' func116 rfl rfl rfl (fun g R => ?_)
  try simp only [ca]
  simp only [na]
  repeat' (first | refine runS ?_ | refine bx rfl (fun _ => ?_) | fail)
  rename_i b10
  refine WX.call rfl (dcnew_ct dc rg nd) rfl ?_
  rintro _ _ ⟨b, rfl, rfl⟩
  simp only [ca, na]
  repeat' (first | refine runS ?_ | refine lAN x.enc x.enc rfl ?_ | refine WX.callQ rfl hrt rfl ?_ | fail)
  refine I.st ?_
  refine stN (CS.cells ⟨dc, rg, nd, none, 0, 0, [], 0, 0, 0, 0, false⟩ (.slice none 0 0)) (CS.cells ⟨dc, rg, nd, none, sn, 0, [], 0, 0, 0, 0, false⟩ (.slice none 0 0)) rfl rfl ?_
  try refine runS ?_
  refine WX.nilH ?_
  refine WX.app rfl rfl (show IsSl 43 ([] : List Ent) (.slice none 0 0) [] from IsSl.nil _) hs rfl rfl (by decide) (by show (2 * (0 + es.length) + 256) * _ ≤ _; omega) rfl (fun v1 h1 hs1 => ?_)
  rw [nil_append] at hs1
  obtain ⟨p1, c1, e1⟩ := hs1.rs.len
  subst e1
  try refine runS ?_
  refine I.st ?_
  refine stN (CS.cells ⟨dc, rg, nd, none, sn, 0, [], 0, 0, 0, 0, false⟩ (.slice none 0 0)) (CS.cells ⟨dc, rg, nd, none, sn, 0, es, 0, 0, 0, 0, false⟩ (.slice p1 es.length c1)) rfl rfl ?_
  try refine runS ?_
  refine I.st ?_
  refine stN (CS.cells ⟨dc, rg, nd, none, sn, 0, es, 0, 0, 0, 0, false⟩ (.slice p1 es.length c1)) (CS.cells ⟨dc, rg, nd, none, sn, 0, es, (es.length : Int), 0, 0, 0, false⟩ (.slice p1 es.length c1)) rfl rfl ?_
  try refine runS ?_
  refine I.st ?_
  refine stN (CS.cells ⟨dc, rg, nd, none, sn, 0, es, (es.length : Int), 0, 0, 0, false⟩ (.slice p1 es.length c1)) (CS.cells ⟨dc, rg, nd, none, sn, 0, es, (es.length : Int), 0, 0, (es.length : Int), false⟩ (.slice p1 es.length c1)) rfl rfl ?_
  try refine runS ?_
  refine I.st ?_
  refine stN (CS.cells ⟨dc, rg, nd, none, sn, 0, es, (es.length : Int), 0, 0, (es.length : Int), false⟩ (.slice p1 es.length c1)) (CS.cells ⟨dc, rg, nd, none, sn, mx 0 (mn bs (es.length : Int)), es, (es.length : Int), 0, 0, (es.length : Int), false⟩ (.slice p1 es.length c1)) rfl rfl ?_
  try refine runS ?_
  refine WX.call rfl (dsettle_ct (s := ⟨dc, rg, nd, none, sn, mx 0 (mn bs (es.length : Int)), es, (es.length : Int), 0, 0, (es.length : Int), false⟩) hO b (.slice p1 es.length c1)) rfl ?_
  rintro _ _ ⟨rfl, rfl⟩
  simp only [ca, na]
  try refine runS ?_
  exact D.fin1 [DsBk b (CS.settle ⟨dc, rg, nd, none, sn, mx 0 (mn bs (es.length : Int)), es, (es.length : Int), 0, 0, (es.length : Int), false⟩) (.slice p1 es.length c1), h1, h] _ rfl rfl ⟨b, .slice p1 es.length c1, h1, rfl, rfl, by rw [hlg]; exact hs1⟩
theorem since_nn {c : Ch} (ok : ChOk c) (k : Int) : 0 ≤ sinceO (some c) k := by
 unfold sinceO
 simp only []
 cases hf : c.all.findIdx? (fun p => decide (p.nd = k)) with
 | none => exact Int.le_refl 0
 | some j =>
  obtain ⟨hj, _⟩ := List.findIdx?_eq_some_iff_getElem.1 hf
  have := (ok.rg _ (getElem_mem hj)).2.2.1
  simp only [getD_eq_getElem?_getD, List.getElem?_eq_getElem hj, Option.getD_some]
  omega
set_option maxRecDepth 10000 in
set_option maxHeartbeats 1000000 in
theorem dcenter_ct {s : CS} (ok : CsOk s) (b : Nat) {v : Value} {hv : Hp} (hs : IsSl 43 s.lg v hv) (x : Cfg) :
  Ct prog 100 [.pointer (some ⟨b, 0, none⟩), .agg (List.toArray x.enc)] [DsBk b s v, hv] (fun r H' => r = .tuple #[.bool (s.enter x).1.1, .int .i64 (s.enter x).1.2] ∧ DsPost (s.enter x).2 b H') := by
 have hr := hs.rs
 have hrt := drightG_ct x
 obtain ⟨up, uc, rfl⟩ := hr.len
 by_cases hR : RightC x
 rotate_left
 ·rw [decide_eq_false hR] at hrt
  have e0 : s.enter x = ((false, 1), s) := if_pos hR
  rw [e0]
  refine Ct.mk' func100 rfl rfl rfl (fun g R => ?_)
  try simp only [ca]
  simp only [na]
  repeat' (first | refine runS ?_ | refine bx rfl (fun _ => ?_) | refine lAN x.enc x.enc rfl ?_ | refine WX.callQ rfl hrt rfl ?_ | fail)
  exact D.fin2 [DsBk b s (.slice up s.lg.length uc), hv] _ rfl rfl rfl ⟨rfl, _, hv, rfl, hs⟩
 rw [decide_eq_true hR] at hrt
 by_cases hep : x.ep ≤ (cfO s.co).ep
 ·have e0 : s.enter x = ((false, 80), s) := by unfold CS.enter; rw [if_neg (fun h => h hR), if_pos hep]
  rw [e0]
  refine Ct.mk' func100 rfl rfl rfl (fun g R => ?_)
  try simp only [ca]
  simp only [na]
  repeat' (first | refine runS ?_ | refine bx rfl (fun _ => ?_) | refine lAN x.enc x.enc rfl ?_ | refine WX.callQ rfl hrt rfl ?_ | fail)
  refine W.quiet Tryz.mix (by kernel_rfl) ?_
  try refine runS ?_
  exact D.fin2 [DsBk b s (.slice up s.lg.length uc), hv] _ rfl rfl rfl ⟨rfl, _, hv, rfl, hs⟩
 have e0 : s.enter x = ((s.resets x, 0), (s.enter0 x).settle) := by unfold CS.enter; rw [if_neg (fun h => h hR), if_neg hep]
 rw [e0]
 obtain ⟨c, hcx, okc, hch⟩ := rightC_ch hR
 have hsi := dsince_ct (ChO.some okc) s.nd
 have hnn := since_nn okc s.nd
 subst hcx
 by_cases h1 : sinceO (some c) s.nd ≠ 0 ∧ sinceO (some c) s.nd ≠ s.sn
 ·have e1 : s.enter0 c.cfg = ⟨s.dc, s.rg, s.nd, some c, sinceO (some c) s.nd, 0, [], 0, 0, 0, 0, true⟩ := by unfold CS.enter0; rw [hch, if_pos h1]
  have e2 : s.resets c.cfg = true := by unfold CS.resets; rw [hch]; exact decide_eq_true h1
  rw [e1, e2]
  obtain ⟨k1, k2⟩ := h1
  clear e0 e1 e2 hch
  generalize sinceO (some c) s.nd = z at hsi k1 k2 hnn ⊢
  have k3 : 0 < z := by omega
  refine Ct.mk' func100 rfl rfl rfl (fun g R => ?_)
  try simp only [ca]
  simp only [na]
  repeat' (first | refine runS ?_ | refine bx rfl (fun _ => ?_) | refine lAN c.cfg.enc c.cfg.enc rfl ?_ | refine WX.callQ rfl hrt rfl ?_ | fail)
  rename_i b3
  refine W.quiet Tryz.mix (by kernel_rfl) ?_
  try refine runS ?_
  refine W.quiet Tryz.mix (by kernel_rfl) ?_
  repeat' (first | refine runS ?_ | refine lAN c.cfg.enc c.cfg.enc rfl ?_ | refine WX.callQ rfl hsi rfl ?_ | fail)
  refine I.st ?_
  refine stN (CS.cells s (.slice up s.lg.length uc)) (CS.cells ⟨s.dc, s.rg, s.nd, s.co, z, s.bs, s.lg, s.du, s.st, s.ak, s.ow, s.su⟩ (.slice up s.lg.length uc)) rfl rfl ?_
  try refine runS ?_
  refine I.st ?_
  refine stN (CS.cells ⟨s.dc, s.rg, s.nd, s.co, z, s.bs, s.lg, s.du, s.st, s.ak, s.ow, s.su⟩ (.slice up s.lg.length uc)) (CS.cells ⟨s.dc, s.rg, s.nd, s.co, z, s.bs, [], s.du, s.st, s.ak, s.ow, s.su⟩ (.slice none 0 0)) rfl rfl ?_
  try refine runS ?_
  refine I.st ?_
  refine stN (CS.cells ⟨s.dc, s.rg, s.nd, s.co, z, s.bs, [], s.du, s.st, s.ak, s.ow, s.su⟩ (.slice none 0 0)) (CS.cells ⟨s.dc, s.rg, s.nd, s.co, z, s.bs, [], s.du, 0, s.ak, s.ow, s.su⟩ (.slice none 0 0)) rfl rfl ?_
  skip
  repeat' (first | refine runS ?_ | refine lAN c.cfg.enc c.cfg.enc rfl ?_ | fail)
  refine I.st ?_
  refine sGN (CS.cells ⟨s.dc, s.rg, s.nd, s.co, z, s.bs, ([] : List Ent), s.du, 0, s.ak, s.ow, s.su⟩ (.slice none 0 0)) c.cfg.enc (CS.cells ⟨s.dc, s.rg, s.nd, some c, z, s.bs, ([] : List Ent), s.du, 0, s.ak, s.ow, s.su⟩ (.slice none 0 0)) rfl rfl ?_
  try refine runS ?_
  refine I.st ?_
  refine stN (CS.cells ⟨s.dc, s.rg, s.nd, some c, z, s.bs, ([] : List Ent), s.du, 0, s.ak, s.ow, s.su⟩ (.slice none 0 0)) (CS.cells ⟨s.dc, s.rg, s.nd, some c, z, s.bs, ([] : List Ent), (0 : Int), 0, s.ak, s.ow, s.su⟩ (.slice none 0 0)) rfl rfl ?_
  try refine runS ?_
  refine I.st ?_
  refine stN (CS.cells ⟨s.dc, s.rg, s.nd, some c, z, s.bs, ([] : List Ent), (0 : Int), 0, s.ak, s.ow, s.su⟩ (.slice none 0 0)) (CS.cells ⟨s.dc, s.rg, s.nd, some c, z, (0 : Int), ([] : List Ent), (0 : Int), 0, s.ak, s.ow, s.su⟩ (.slice none 0 0)) rfl rfl ?_
  try refine runS ?_
  refine I.st ?_
  refine stN (CS.cells ⟨s.dc, s.rg, s.nd, some c, z, (0 : Int), ([] : List Ent), (0 : Int), 0, s.ak, s.ow, s.su⟩ (.slice none 0 0)) (CS.cells ⟨s.dc, s.rg, s.nd, some c, z, (0 : Int), ([] : List Ent), (0 : Int), 0, 0, s.ow, s.su⟩ (.slice none 0 0)) rfl rfl ?_
  try refine runS ?_
  refine I.st ?_
  refine stN (CS.cells ⟨s.dc, s.rg, s.nd, some c, z, (0 : Int), ([] : List Ent), (0 : Int), 0, 0, s.ow, s.su⟩ (.slice none 0 0)) (CS.cells ⟨s.dc, s.rg, s.nd, some c, z, (0 : Int), ([] : List Ent), (0 : Int), 0, 0, 0, s.su⟩ (.slice none 0 0)) rfl rfl ?_
  try refine runS ?_
  refine I.st ?_
  refine stN (CS.cells ⟨s.dc, s.rg, s.nd, some c, z, (0 : Int), ([] : List Ent), (0 : Int), 0, 0, 0, s.su⟩ (.slice none 0 0)) (CS.cells ⟨s.dc, s.rg, s.nd, some c, z, (0 : Int), ([] : List Ent), (0 : Int), 0, 0, 0, true⟩ (.slice none 0 0)) rfl rfl ?_
  try refine runS ?_
  refine WX.call rfl (dsettle_ct (s := ⟨s.dc, s.rg, s.nd, some c, z, (0 : Int), ([] : List Ent), (0 : Int), 0, 0, 0, true⟩) (ChO.some okc) b (.slice none 0 0)) rfl ?_
  rintro _ _ ⟨rfl, rfl⟩
  simp only [ca, na]
  try refine runS ?_
  refine D.nilH ?_
  exact D.fin2 [DsBk b (CS.settle ⟨s.dc, s.rg, s.nd, some c, z, 0, [], 0, 0, 0, 0, true⟩) (.slice none 0 0), []] _ rfl rfl rfl ⟨rfl, _, [], rfl, by rw [(settle_same _).2.2.2.2.2.2.1]; exact IsSl.nil _⟩
 ·have e1 : s.enter0 c.cfg = ⟨s.dc, s.rg, s.nd, some c, s.sn, s.len, s.lg, s.len, s.st, 0, 0, true⟩ := by unfold CS.enter0; rw [hch, if_neg h1]
  have e2 : s.resets c.cfg = false := by unfold CS.resets; rw [hch]; exact decide_eq_false h1
  rw [e1, e2]
  clear e0 e1 e2 hch
  generalize sinceO (some c) s.nd = z at hsi h1 hnn
  refine Ct.mk' func100 rfl rfl rfl (fun g R => ?_)
  try simp only [ca]
  simp only [na]
  repeat' (first | refine runS ?_ | refine bx rfl (fun _ => ?_) | refine lAN c.cfg.enc c.cfg.enc rfl ?_ | refine WX.callQ rfl hrt rfl ?_ | fail)
  rename_i b3
  refine W.quiet Tryz.mix (by kernel_rfl) ?_
  try refine runS ?_
  refine W.quiet Tryz.mix (by kernel_rfl) ?_
  by_cases k1 : z ≠ 0
  ·have k2 : z = s.sn := Classical.byContradiction fun h => h1 ⟨k1, h⟩
   have k3 : 0 < z := by omega
   repeat' (first | refine runS ?_ | refine lAN c.cfg.enc c.cfg.enc rfl ?_ | refine WX.callQ rfl hsi rfl ?_ | fail)
   skip
   skip
   refine I.st ?_
   refine sGN (CS.cells ⟨s.dc, s.rg, s.nd, s.co, s.sn, s.bs, s.lg, s.du, s.st, s.ak, s.ow, s.su⟩ (.slice up s.lg.length uc)) c.cfg.enc (CS.cells ⟨s.dc, s.rg, s.nd, some c, s.sn, s.bs, s.lg, s.du, s.st, s.ak, s.ow, s.su⟩ (.slice up s.lg.length uc)) rfl rfl ?_
   try refine runS ?_
   refine I.st ?_
   refine stN (CS.cells ⟨s.dc, s.rg, s.nd, some c, s.sn, s.bs, s.lg, s.du, s.st, s.ak, s.ow, s.su⟩ (.slice up s.lg.length uc)) (CS.cells ⟨s.dc, s.rg, s.nd, some c, s.sn, s.bs, s.lg, (s.len : Int), s.st, s.ak, s.ow, s.su⟩ (.slice up s.lg.length uc)) rfl rfl ?_
   try refine runS ?_
   refine I.st ?_
   refine stN (CS.cells ⟨s.dc, s.rg, s.nd, some c, s.sn, s.bs, s.lg, (s.len : Int), s.st, s.ak, s.ow, s.su⟩ (.slice up s.lg.length uc)) (CS.cells ⟨s.dc, s.rg, s.nd, some c, s.sn, (s.len : Int), s.lg, (s.len : Int), s.st, s.ak, s.ow, s.su⟩ (.slice up s.lg.length uc)) rfl rfl ?_
   try refine runS ?_
   refine I.st ?_
   refine stN (CS.cells ⟨s.dc, s.rg, s.nd, some c, s.sn, (s.len : Int), s.lg, (s.len : Int), s.st, s.ak, s.ow, s.su⟩ (.slice up s.lg.length uc)) (CS.cells ⟨s.dc, s.rg, s.nd, some c, s.sn, (s.len : Int), s.lg, (s.len : Int), s.st, 0, s.ow, s.su⟩ (.slice up s.lg.length uc)) rfl rfl ?_
   try refine runS ?_
   refine I.st ?_
   refine stN (CS.cells ⟨s.dc, s.rg, s.nd, some c, s.sn, (s.len : Int), s.lg, (s.len : Int), s.st, 0, s.ow, s.su⟩ (.slice up s.lg.length uc)) (CS.cells ⟨s.dc, s.rg, s.nd, some c, s.sn, (s.len : Int), s.lg, (s.len : Int), s.st, 0, 0, s.su⟩ (.slice up s.lg.length uc)) rfl rfl ?_
   try refine runS ?_
   refine I.st ?_
   refine stN (CS.cells ⟨s.dc, s.rg, s.nd, some c, s.sn, (s.len : Int), s.lg, (s.len : Int), s.st, 0, 0, s.su⟩ (.slice up s.lg.length uc)) (CS.cells ⟨s.dc, s.rg, s.nd, some c, s.sn, (s.len : Int), s.lg, (s.len : Int), s.st, 0, 0, true⟩ (.slice up s.lg.length uc)) rfl rfl ?_
   try refine runS ?_
   refine WX.call rfl (dsettle_ct (s := ⟨s.dc, s.rg, s.nd, some c, s.sn, (s.len : Int), s.lg, (s.len : Int), s.st, 0, 0, true⟩) (ChO.some okc) b (.slice up s.lg.length uc)) rfl ?_
   rintro _ _ ⟨rfl, rfl⟩
   simp only [ca, na]
   try refine runS ?_
   exact D.fin2 [DsBk b (CS.settle ⟨s.dc, s.rg, s.nd, some c, s.sn, s.len, s.lg, s.len, s.st, 0, 0, true⟩) (.slice up s.lg.length uc), hv] _ rfl rfl rfl ⟨rfl, _, hv, rfl, by rw [(settle_same _).2.2.2.2.2.2.1]; exact hs⟩
  ·have k2 : z = 0 := Classical.not_not.1 k1
   repeat' (first | refine runS ?_ | refine lAN c.cfg.enc c.cfg.enc rfl ?_ | refine WX.callQ rfl hsi rfl ?_ | fail)
   skip
   skip
   refine I.st ?_
   refine sGN (CS.cells ⟨s.dc, s.rg, s.nd, s.co, s.sn, s.bs, s.lg, s.du, s.st, s.ak, s.ow, s.su⟩ (.slice up s.lg.length uc)) c.cfg.enc (CS.cells ⟨s.dc, s.rg, s.nd, some c, s.sn, s.bs, s.lg, s.du, s.st, s.ak, s.ow, s.su⟩ (.slice up s.lg.length uc)) rfl rfl ?_
   try refine runS ?_
   refine I.st ?_
   refine stN (CS.cells ⟨s.dc, s.rg, s.nd, some c, s.sn, s.bs, s.lg, s.du, s.st, s.ak, s.ow, s.su⟩ (.slice up s.lg.length uc)) (CS.cells ⟨s.dc, s.rg, s.nd, some c, s.sn, s.bs, s.lg, (s.len : Int), s.st, s.ak, s.ow, s.su⟩ (.slice up s.lg.length uc)) rfl rfl ?_
   try refine runS ?_
   refine I.st ?_
   refine stN (CS.cells ⟨s.dc, s.rg, s.nd, some c, s.sn, s.bs, s.lg, (s.len : Int), s.st, s.ak, s.ow, s.su⟩ (.slice up s.lg.length uc)) (CS.cells ⟨s.dc, s.rg, s.nd, some c, s.sn, (s.len : Int), s.lg, (s.len : Int), s.st, s.ak, s.ow, s.su⟩ (.slice up s.lg.length uc)) rfl rfl ?_
   try refine runS ?_
   refine I.st ?_
   refine stN (CS.cells ⟨s.dc, s.rg, s.nd, some c, s.sn, (s.len : Int), s.lg, (s.len : Int), s.st, s.ak, s.ow, s.su⟩ (.slice up s.lg.length uc)) (CS.cells ⟨s.dc, s.rg, s.nd, some c, s.sn, (s.len : Int), s.lg, (s.len : Int), s.st, 0, s.ow, s.su⟩ (.slice up s.lg.length uc)) rfl rfl ?_
   try refine runS ?_
   refine I.st ?_
   refine stN (CS.cells ⟨s.dc, s.rg, s.nd, some c, s.sn, (s.len : Int), s.lg, (s.len : Int), s.st, 0, s.ow, s.su⟩ (.slice up s.lg.length uc)) (CS.cells ⟨s.dc, s.rg, s.nd, some c, s.sn, (s.len : Int), s.lg, (s.len : Int), s.st, 0, 0, s.su⟩ (.slice up s.lg.length uc)) rfl rfl ?_
   try refine runS ?_
   refine I.st ?_
   refine stN (CS.cells ⟨s.dc, s.rg, s.nd, some c, s.sn, (s.len : Int), s.lg, (s.len : Int), s.st, 0, 0, s.su⟩ (.slice up s.lg.length uc)) (CS.cells ⟨s.dc, s.rg, s.nd, some c, s.sn, (s.len : Int), s.lg, (s.len : Int), s.st, 0, 0, true⟩ (.slice up s.lg.length uc)) rfl rfl ?_
   try refine runS ?_
   refine WX.call rfl (dsettle_ct (s := ⟨s.dc, s.rg, s.nd, some c, s.sn, (s.len : Int), s.lg, (s.len : Int), s.st, 0, 0, true⟩) (ChO.some okc) b (.slice up s.lg.length uc)) rfl ?_
   rintro _ _ ⟨rfl, rfl⟩
   simp only [ca, na]
   try refine runS ?_
   exact D.fin2 [DsBk b (CS.settle ⟨s.dc, s.rg, s.nd, some c, s.sn, s.len, s.lg, s.len, s.st, 0, 0, true⟩) (.slice up s.lg.length uc), hv] _ rfl rfl rfl ⟨rfl, _, hv, rfl, by rw [(settle_same _).2.2.2.2.2.2.1]; exact hs⟩
def CS.dinject (s : CS) (e : Ent) : Int × CS :=
 if ¬ s.head then (90, s)
 else if ¬ EntR e ∨ e.rg ≠ s.rg ∨ e.dc = s.dc then (1, s)
 else if e.sq ≤ (colF s.rg s.lg).at e.dc.toNat then (80, s)
 else if e.sq > (colF s.rg s.lg).at e.dc.toNat + 1 then (91, s)
 else if ¬ s.covers e.dp then (91, s)
 else if 256 ≤ s.len then (2, s)
 else (0, s.push e)
set_option maxRecDepth 10000 in
set_option maxHeartbeats 1000000 in
theorem dcinject_ct {s : CS} (ok : CsOk s) (b : Nat) {v : Value} {hv : Hp} (hs : IsSl 43 s.lg v hv) (e : Ent) :
  Ct prog 107 [.pointer (some ⟨b, 0, none⟩), .agg (List.toArray e.enc)] [DsBk b s v, hv] (fun r H' => r = .int .i64 (s.dinject e).1 ∧ DsPost (s.dinject e).2 b H') := by
 have hr := hs.rs
 have hll := ok.len
 have hlen : s.len = (s.lg.length : Int) := rfl
 have hih := disHead_ct ok.co b v
 have hen := dentR_ct e
 have hcol := dccolumn_ct s b hr (by omega)
 have hpt := dpart_ct e.dp s.rg
 have hcv := dcovC_ct (colF s.rg s.lg) (partV e.dp s.rg)
 by_cases c1 : s.head
 rotate_left
 ·have e0 : s.dinject e = (90, s) := if_pos c1
  rw [e0]
  rw [decide_eq_false c1] at hih
  clear hcol hen hpt hcv
  refine Ct.mk' func107 rfl rfl rfl (fun g R => ?_)
  try simp only [ca]
  simp only [na]
  repeat' (first | refine runS ?_ | refine bx rfl (fun _ => ?_) | refine WX.callQ rfl hih rfl ?_ | fail)
  exact D.fin1 [DsBk b s v, hv] _ rfl rfl ⟨rfl, v, hv, rfl, hs⟩
 rw [decide_eq_true c1] at hih
 by_cases c2 : EntR e ∧ e.rg = s.rg ∧ ¬ e.dc = s.dc
 rotate_left
 ·have e0 : s.dinject e = (1, s) := by
   unfold CS.dinject
   rw [if_neg (fun h => h c1), if_pos]
   by_cases k1 : EntR e
   ·by_cases k2 : e.rg = s.rg
    ·exact .inr (.inr (Classical.byContradiction fun k3 => c2 ⟨k1, k2, k3⟩))
    ·exact .inr (.inl k2)
   ·exact .inl k1
  rw [e0]
  refine Ct.mk' func107 rfl rfl rfl (fun g R => ?_)
  try simp only [ca]
  simp only [na]
  repeat' (first | refine runS ?_ | refine bx rfl (fun _ => ?_) | refine WX.callQ rfl hih rfl ?_ | fail)
  refine W.quiet Tryz.mix (by kernel_rfl) ?_
  by_cases k1 : EntR e
  ·rw [decide_eq_true k1] at hen
   by_cases k2 : e.rg = s.rg
   ·have k3 : e.dc = s.dc := Classical.byContradiction fun k3 => c2 ⟨k1, k2, k3⟩
    skip
    repeat' (first | refine runS ?_ | refine lAN (t := 43) e.enc e.enc rfl ?_ | refine WX.callQ rfl hen rfl ?_ | fail)
    exact D.fin1 [DsBk b s v, hv] _ rfl rfl ⟨rfl, v, hv, rfl, hs⟩
   ·skip
    repeat' (first | refine runS ?_ | refine lAN (t := 43) e.enc e.enc rfl ?_ | refine WX.callQ rfl hen rfl ?_ | fail)
    exact D.fin1 [DsBk b s v, hv] _ rfl rfl ⟨rfl, v, hv, rfl, hs⟩
  ·rw [decide_eq_false k1] at hen
   skip
   repeat' (first | refine runS ?_ | refine lAN (t := 43) e.enc e.enc rfl ?_ | refine WX.callQ rfl hen rfl ?_ | fail)
   exact D.fin1 [DsBk b s v, hv] _ rfl rfl ⟨rfl, v, hv, rfl, hs⟩
 obtain ⟨k1, k2, k3⟩ := c2
 rw [decide_eq_true k1] at hen
 have hn1 : ¬ (¬ EntR e ∨ e.rg ≠ s.rg ∨ e.dc = s.dc) := by
  rintro (h | h | h)
  ·exact h k1
  ·exact h k2
  ·exact k3 h
 have hj3 : e.dc.toNat < 3 := by have := k1.ch.1; have := k1.ch.2.1; omega
 have hat := (colF s.rg s.lg).enc_at hj3
 have hcr := colF_range s.rg ok.es hj3
 simp only [MC] at hcr
 obtain ⟨y, hy⟩ : ∃ y, (colF s.rg s.lg).at e.dc.toNat = y := ⟨_, rfl⟩
 rw [hy] at hat hcr
 obtain ⟨cl, hcl⟩ : ∃ c, colF s.rg s.lg = c := ⟨_, rfl⟩
 have hg : cl.enc[0 + e.dc.toNat * 1]? = some (.int .i64 y) := by rw [← hcl, show 0 + e.dc.toNat * 1 = e.dc.toNat by omega]; exact hat
 have q0 : 0 ≤ e.dc := k1.ch.1
 have q3 : e.dc < 3 := k1.ch.2.1
 by_cases c3 : e.sq ≤ y
 ·have e0 : s.dinject e = (80, s) := by unfold CS.dinject; rw [if_neg (fun h => h c1), if_neg hn1, hy, if_pos c3]
  rw [e0]
  rw [hcl] at hcol
  refine Ct.mk' func107 rfl rfl rfl (fun g R => ?_)
  try simp only [ca]
  simp only [na]
  repeat' (first | refine runS ?_ | refine bx rfl (fun _ => ?_) | refine WX.callQ rfl hih rfl ?_ | fail)
  refine W.quiet Tryz.mix (by kernel_rfl) ?_
  skip
  repeat' (first | refine runS ?_ | refine al (fun _ => ?_) | refine lAN (t := 43) e.enc e.enc rfl ?_ | refine WX.callQ rfl hen rfl ?_ | refine WX.callQ rfl hcol rfl ?_ | refine sGW V3.z.enc cl.enc rfl rfl ?_ | fail)
  refine W.quiet Tryz.mix (by kernel_rfl) ?_
  skip
  repeat' (first | refine runS ?_ | refine lN cl.enc _ rfl ?_ (hc := hg) | fail)
  exact D.fin1 [DsBk b s v, hv] _ rfl rfl ⟨rfl, v, hv, rfl, hs⟩
 by_cases c4 : e.sq > y + 1
 ·have e0 : s.dinject e = (91, s) := by unfold CS.dinject; rw [if_neg (fun h => h c1), if_neg hn1, hy, if_neg c3, if_pos c4]
  rw [e0]
  rw [hcl] at hcol
  refine Ct.mk' func107 rfl rfl rfl (fun g R => ?_)
  try simp only [ca]
  simp only [na]
  repeat' (first | refine runS ?_ | refine bx rfl (fun _ => ?_) | refine WX.callQ rfl hih rfl ?_ | fail)
  refine W.quiet Tryz.mix (by kernel_rfl) ?_
  skip
  repeat' (first | refine runS ?_ | refine al (fun _ => ?_) | refine lAN (t := 43) e.enc e.enc rfl ?_ | refine WX.callQ rfl hen rfl ?_ | refine WX.callQ rfl hcol rfl ?_ | refine sGW V3.z.enc cl.enc rfl rfl ?_ | fail)
  refine W.quiet Tryz.mix (by kernel_rfl) ?_
  skip
  repeat' (first | refine runS ?_ | refine lN cl.enc _ rfl ?_ (hc := hg) | fail)
  refine W.quiet Tryz.mix (by kernel_rfl) ?_
  skip
  repeat' (first | refine runS ?_ | refine lN cl.enc _ rfl ?_ (hc := hg) | fail)
  exact D.fin1 [DsBk b s v, hv] _ rfl rfl ⟨rfl, v, hv, rfl, hs⟩
 have c4' : e.sq = y + 1 := by omega
 by_cases c5 : s.covers e.dp
 rotate_left
 ·have e0 : s.dinject e = (91, s) := by unfold CS.dinject; rw [if_neg (fun h => h c1), if_neg hn1, hy, if_neg c3, if_neg c4, if_pos c5]
  rw [e0]
  rw [decide_eq_false c5] at hcv
  rw [hcl] at hcol hcv
  refine Ct.mk' func107 rfl rfl rfl (fun g R => ?_)
  try simp only [ca]
  simp only [na]
  repeat' (first | refine runS ?_ | refine bx rfl (fun _ => ?_) | refine WX.callQ rfl hih rfl ?_ | fail)
  refine W.quiet Tryz.mix (by kernel_rfl) ?_
  skip
  repeat' (first | refine runS ?_ | refine al (fun _ => ?_) | refine lAN (t := 43) e.enc e.enc rfl ?_ | refine WX.callQ rfl hen rfl ?_ | refine WX.callQ rfl hcol rfl ?_ | refine sGW V3.z.enc cl.enc rfl rfl ?_ | fail)
  refine W.quiet Tryz.mix (by kernel_rfl) ?_
  skip
  repeat' (first | refine runS ?_ | refine lN cl.enc _ rfl ?_ (hc := hg) | fail)
  refine W.quiet Tryz.mix (by kernel_rfl) ?_
  skip
  repeat' (first | refine runS ?_ | refine lN cl.enc _ rfl ?_ (hc := hg) | refine lAN (t := 163) cl.enc cl.enc rfl ?_ | refine lAN (t := 37) e.enc e.dp.enc rfl ?_ | refine WX.callQ rfl hpt rfl ?_ | refine WX.callQ rfl hcv rfl ?_ | fail)
  exact D.fin1 [DsBk b s v, hv] _ rfl rfl ⟨rfl, v, hv, rfl, hs⟩
 rw [decide_eq_true c5] at hcv
 by_cases c6 : 256 ≤ s.len
 ·have e0 : s.dinject e = (2, s) := by unfold CS.dinject; rw [if_neg (fun h => h c1), if_neg hn1, hy, if_neg c3, if_neg c4, if_neg (fun h => h c5), if_pos c6]
  rw [e0]
  rw [hcl] at hcol hcv
  refine Ct.mk' func107 rfl rfl rfl (fun g R => ?_)
  try simp only [ca]
  simp only [na]
  repeat' (first | refine runS ?_ | refine bx rfl (fun _ => ?_) | refine WX.callQ rfl hih rfl ?_ | fail)
  refine W.quiet Tryz.mix (by kernel_rfl) ?_
  skip
  repeat' (first | refine runS ?_ | refine al (fun _ => ?_) | refine lAN (t := 43) e.enc e.enc rfl ?_ | refine WX.callQ rfl hen rfl ?_ | refine WX.callQ rfl hcol rfl ?_ | refine sGW V3.z.enc cl.enc rfl rfl ?_ | fail)
  refine W.quiet Tryz.mix (by kernel_rfl) ?_
  skip
  repeat' (first | refine runS ?_ | refine lN cl.enc _ rfl ?_ (hc := hg) | fail)
  refine W.quiet Tryz.mix (by kernel_rfl) ?_
  skip
  repeat' (first | refine runS ?_ | refine lN cl.enc _ rfl ?_ (hc := hg) | refine lAN (t := 163) cl.enc cl.enc rfl ?_ | refine lAN (t := 37) e.enc e.dp.enc rfl ?_ | refine WX.callQ rfl hpt rfl ?_ | refine WX.callQ rfl hcv rfl ?_ | fail)
  exact D.fin1 [DsBk b s v, hv] _ rfl rfl ⟨rfl, v, hv, rfl, hs⟩
 have e0 : s.dinject e = (0, s.push e) := by unfold CS.dinject; rw [if_neg (fun h => h c1), if_neg hn1, hy, if_neg c3, if_neg c4, if_neg (fun h => h c5), if_neg c6]
 rw [e0]
 rw [hcl] at hcol hcv
 refine Ct.mk' func107 rfl rfl rfl (fun g R => ?_)
 try simp only [ca]
 simp only [na]
 repeat' (first | refine runS ?_ | refine bx rfl (fun _ => ?_) | refine WX.callQ rfl hih rfl ?_ | fail)
 rename_i b3
 refine W.quiet Tryz.mix (by kernel_rfl) ?_
 skip
 repeat' (first | refine runS ?_ | refine al (fun _ => ?_) | refine lAN (t := 43) e.enc e.enc rfl ?_ | refine WX.callQ rfl hen rfl ?_ | refine WX.callQ rfl hcol rfl ?_ | refine sGW V3.z.enc cl.enc rfl rfl ?_ | fail)
 refine W.quiet Tryz.mix (by kernel_rfl) ?_
 skip
 repeat' (first | refine runS ?_ | refine lN cl.enc _ rfl ?_ (hc := hg) | fail)
 refine W.quiet Tryz.mix (by kernel_rfl) ?_
 skip
 repeat' (first | refine runS ?_ | refine lN cl.enc _ rfl ?_ (hc := hg) | refine lAN (t := 163) cl.enc cl.enc rfl ?_ | refine lAN (t := 37) e.enc e.dp.enc rfl ?_ | refine WX.callQ rfl hpt rfl ?_ | refine WX.callQ rfl hcv rfl ?_ | fail)
 refine W.mixN 8 [true, true, true, true, true, true, false, false] [DsBk b s v, EnBk b3 e] Tryz.mix (by kernel_rfl) ?_
 repeat' (first | refine runS ?_ | refine lAN (t := 43) e.enc e.enc rfl ?_ | fail)
 refine I.bs ?_
 refine WX.lit (ys := [e]) rfl rfl rfl rfl rfl rfl (by decide) rfl (fun v2 h2 hs2 => ?_)
 try refine runS ?_
 refine WX.app rfl rfl hs hs2.rs rfl rfl (by decide) (by simp only [length_cons, length_nil]; omega) rfl (fun v3 h3 hs3 => ?_)
 obtain ⟨p3, c3', e3⟩ := hs3.rs.len
 subst e3
 try refine runS ?_
 refine I.st ?_
 refine stN (s.cells v) (CS.cells (s.push e) (.slice p3 (s.lg ++ [e]).length c3')) rfl rfl ?_
 try refine runS ?_
 exact D.fin1 [DsBk b (s.push e) (.slice p3 (s.lg ++ [e]).length c3'), h3] _ rfl rfl ⟨rfl, _, h3, rfl, hs3⟩
def CS.dseen (s : CS) (clock : Int) : List Int := clock :: s.lg.map (·.ct)
def CS.dentry0 (s : CS) (key val : ByteArray) (dead : Bool) (dp : V9) (clock cl op : Int) : Ent :=
 ⟨s.dc, s.rg, (colF s.rg s.lg).at s.dc.toNat + 1, mostI (s.dseen clock) + 1, s.dc, s.rg, key, val, dead, dp, cl, op⟩
def CS.dentry (s : CS) (key val : ByteArray) (dead : Bool) (deps : V9) (clock cl op : Int) : Ent := s.dentry0 key val dead (twoV deps (dpastV s.lg)) clock cl op
def CS.dput (s : CS) (key val : ByteArray) (dead : Bool) (deps : V9) (clock cl op : Int) : (Int × Int) × CS :=
 if ¬ s.head then ((0, 90), s)
 else if 0 < foundE s.lg cl op then ((foundE s.lg cl op, 0), s)
 else if ¬ s.covers deps then ((0, 91), s)
 else if 256 ≤ s.len ∨ dnextOk s.dc s.rg (s.dseen clock) = false then ((0, 2), s)
 else if ¬ EntR (s.dentry key val dead deps clock cl op) then ((0, 1), s)
 else ((s.len + 1, 0), s.push (s.dentry key val dead deps clock cl op))
theorem foundE_some {ps : List Ent} {cl op : Int} {j : Nat} {p : Ent} (hp : ps[j]? = some p) (hpk : p.cl = cl ∧ p.op = op) (hall : ∀ (i : Nat) (p : Ent), i < j → ps[i]? = some p → ¬ (p.cl = cl ∧ p.op = op)) : foundE ps cl op = (j : Int) + 1 := by
 have : ps.findIdx? (fun e => decide (e.cl = cl ∧ e.op = op)) = some j := by
  rw [List.findIdx?_eq_some_iff_getElem]
  obtain ⟨h1, h2⟩ := List.getElem?_eq_some_iff.1 hp
  refine ⟨h1, by rw [h2]; simpa using hpk, fun i hi => ?_⟩
  have := hall i _ hi (List.getElem?_eq_getElem (by omega))
  simpa using this
 unfold foundE; rw [this]
theorem foundE_none {ps : List Ent} {cl op : Int} (hall : ∀ (i : Nat) (p : Ent), i < ps.length → ps[i]? = some p → ¬ (p.cl = cl ∧ p.op = op)) : foundE ps cl op = 0 := by
 have : ps.findIdx? (fun e => decide (e.cl = cl ∧ e.op = op)) = none := by
  rw [List.findIdx?_eq_none_iff]
  intro x hx
  obtain ⟨i, hi⟩ := mem_iff_getElem?.1 hx
  have hlt' := (List.getElem?_eq_some_iff.1 hi).1
  have := hall i x (by omega) hi
  simpa using this
 unfold foundE; rw [this]
abbrev StBk3 (b : Nat) (l : List Value) : Hp := [(b, .cells (List.toArray l) 41 (0, 0))]
set_option maxRecDepth 10000 in
set_option maxHeartbeats 2000000 in
theorem dcput_ct {s : CS} (ok : CsOk s) (b : Nat) {v : Value} {hv : Hp} (hs : IsSl 43 s.lg v hv) (key val : ByteArray) (dead : Bool) (deps : V9) (clock cl op : Int) :
  Ct prog 104 [.pointer (some ⟨b, 0, none⟩), .string key, .string val, .bool dead, .agg (List.toArray deps.enc), .int .i64 clock, .int .i64 cl, .int .i64 op] [DsBk b s v, hv]
   (fun r H' => r = .tuple #[.int .i64 (s.dput key val dead deps clock cl op).1.1, .int .i64 (s.dput key val dead deps clock cl op).1.2] ∧ DsPost (s.dput key val dead deps clock cl op).2 b H') := by
 have hr := hs.rs
 obtain ⟨vp, vc, rfl⟩ := hr.len
 have hll := ok.len
 have hlen : s.len = (s.lg.length : Int) := rfl
 have hih := disHead_ct ok.co b (.slice vp s.lg.length vc)
 have hcol := dccolumn_ct s b hr (by omega)
 have hpt := dpart_ct deps s.rg
 have hcv := dcovC_ct (colF s.rg s.lg) (partV deps s.rg)
 have hpa := dpast_ct hr (by omega)
 have htw := dtwo_ct deps (dpastV s.lg)
 obtain ⟨p, hp⟩ : ∃ p, s.dput key val dead deps clock cl op = p := ⟨_, rfl⟩
 rw [hp]
 unfold CS.dput at hp
 obtain ⟨cc, hcc⟩ : ∃ c, colF s.rg s.lg = c := ⟨_, rfl⟩
 by_cases c1 : s.head
 rotate_left
 ·rw [if_pos c1] at hp
  subst hp
  rw [decide_eq_false c1] at hih
  refine Ct.mk' func104 rfl rfl rfl (fun g R => ?_)
  try simp only [ca]
  simp only [na]
  skip
  repeat' (first | refine runS ?_ | refine gS (fun _ => ?_) (fun _ => ?_) | refine bx rfl (fun _ => ?_) | refine al (fun _ => ?_) | refine lAN (t := 37) deps.enc deps.enc rfl ?_ | refine WX.callQ rfl hih rfl ?_ | refine WX.callQ rfl hcol rfl ?_ | refine WX.callQ rfl hpt rfl ?_ | refine WX.callQ rfl hcv rfl ?_ | fail)
  exact D.fin2 [DsBk b s (.slice vp s.lg.length vc), hv] _ rfl rfl rfl ⟨rfl, _, hv, rfl, hs⟩
 rw [decide_eq_true c1] at hih
 rw [if_neg (fun h => h c1)] at hp
 refine Ct.mk' func104 rfl rfl rfl (fun g R => ?_)
 try simp only [ca]
 simp only [na]
 skip
 repeat' (first | refine runS ?_ | refine gS (fun _ => ?_) (fun _ => ?_) | refine bx rfl (fun _ => ?_) | refine al (fun _ => ?_) | refine lAN (t := 37) deps.enc deps.enc rfl ?_ | refine WX.callQ rfl hih rfl ?_ | refine WX.callQ rfl hcol rfl ?_ | refine WX.callQ rfl hpt rfl ?_ | refine WX.callQ rfl hcv rfl ?_ | fail)
 rename_i b12
 refine W.hp (H' := [VcBk b12 deps, DsBk b s (.slice vp s.lg.length vc), hv, R]) rfl ?_
 refine W.loop (α := Nat) (fun i => i ≤ s.lg.length ∧ ∀ (k : Nat) (p : Ent), k < i → s.lg[k]? = some p → ¬ (p.cl = cl ∧ p.op = op)) (fun i => [(0, .pointer (some ⟨b, 0, none⟩)), (1, .string key), (2, .string val), (3, .bool dead), (5, .int .i64 clock), (6, .int .i64 cl), (7, .int .i64 op), (12, .pointer (some ⟨b12, 0, none⟩)), (18, .int .i64 (i : Int))])
  (fun _ => [VcBk b12 deps, DsBk b s (.slice vp s.lg.length vc), hv, R]) (fun i => s.lg.length - i) 0 ⟨Nat.zero_le _, fun i p hi => absurd hi (Nat.not_lt_zero _)⟩ (by repeat (first | exact Fsub.nil | refine Fsub.cons rfl ?_)) (Hsub.of_picks inferInstance) ?_
 rintro i ⟨hi, hall⟩
 by_cases hlt : i < s.lg.length
 ·obtain ⟨x, hx⟩ : ∃ x, s.lg[i]? = some x := ⟨_, List.getElem?_eq_getElem hlt⟩
  by_cases h1 : x.cl = cl
  ·by_cases h2 : x.op = op
   ·have hf := foundE_some hx ⟨h1, h2⟩ hall
    rw [if_pos (by omega), hf] at hp
    subst hp
    skip
    repeat' (first | refine runS ?_ | refine gS (fun _ => ?_) (fun _ => ?_) | refine bx rfl (fun _ => ?_) | refine al (fun _ => ?_) | refine lAN (t := 37) deps.enc deps.enc rfl ?_ | refine WX.callQ rfl hih rfl ?_ | refine WX.callQ rfl hcol rfl ?_ | refine WX.callQ rfl hpt rfl ?_ | refine WX.callQ rfl hcv rfl ?_ | fail)
    exact D.fin2 [DsBk b s (.slice vp s.lg.length vc), hv] _ rfl rfl rfl ⟨rfl, _, hv, rfl, hs⟩
   ·skip
    repeat' (first | refine runS ?_ | refine gS (fun _ => ?_) (fun _ => ?_) | refine bx rfl (fun _ => ?_) | refine al (fun _ => ?_) | refine lAN (t := 37) deps.enc deps.enc rfl ?_ | refine WX.callQ rfl hih rfl ?_ | refine WX.callQ rfl hcol rfl ?_ | refine WX.callQ rfl hpt rfl ?_ | refine WX.callQ rfl hcv rfl ?_ | fail)
    refine D.rd (i + 1) ⟨by omega, fun k p hk hp => ?_⟩ (by omega)
    rcases Nat.lt_or_ge k i with h | h
    ·exact hall k p h hp
    ·obtain rfl : k = i := by omega
     rw [hx] at hp; cases hp; exact fun h => h2 h.2
  ·skip
   repeat' (first | refine runS ?_ | refine gS (fun _ => ?_) (fun _ => ?_) | refine bx rfl (fun _ => ?_) | refine al (fun _ => ?_) | refine lAN (t := 37) deps.enc deps.enc rfl ?_ | refine WX.callQ rfl hih rfl ?_ | refine WX.callQ rfl hcol rfl ?_ | refine WX.callQ rfl hpt rfl ?_ | refine WX.callQ rfl hcv rfl ?_ | fail)
   refine D.rd (i + 1) ⟨by omega, fun k p hk hp => ?_⟩ (by omega)
   rcases Nat.lt_or_ge k i with h | h
   ·exact hall k p h hp
   ·obtain rfl : k = i := by omega
    rw [hx] at hp; cases hp; exact fun h => h1 h.1
 obtain rfl : i = s.lg.length := by omega
 have hf := foundE_none hall
 rw [if_neg (by omega)] at hp
 clear hall
 rw [hcc] at hcol
 by_cases c3 : s.covers deps
 rotate_left
 ·rw [if_pos c3] at hp
  subst hp
  rw [decide_eq_false c3] at hcv
  rw [hcc] at hcv
  skip
  repeat' (first | refine runS ?_ | refine gS (fun _ => ?_) (fun _ => ?_) | refine bx rfl (fun _ => ?_) | refine al (fun _ => ?_) | refine lAN (t := 37) deps.enc deps.enc rfl ?_ | refine WX.callQ rfl hih rfl ?_ | refine WX.callQ rfl hcol rfl ?_ | refine WX.callQ rfl hpt rfl ?_ | refine WX.callQ rfl hcv rfl ?_ | refine sGW V3.z.enc cc.enc rfl rfl ?_ | fail)
  refine W.quiet Tryz.mix (by kernel_rfl) ?_
  skip
  repeat' (first | refine runS ?_ | refine gS (fun _ => ?_) (fun _ => ?_) | refine bx rfl (fun _ => ?_) | refine al (fun _ => ?_) | refine lAN (t := 37) deps.enc deps.enc rfl ?_ | refine WX.callQ rfl hih rfl ?_ | refine WX.callQ rfl hcol rfl ?_ | refine WX.callQ rfl hpt rfl ?_ | refine WX.callQ rfl hcv rfl ?_ | refine lAN (t := 163) cc.enc cc.enc rfl ?_ | fail)
  exact D.fin2 [DsBk b s (.slice vp s.lg.length vc), hv] _ rfl rfl rfl ⟨rfl, _, hv, rfl, hs⟩
 rw [if_neg (fun h => h c3)] at hp
 rw [decide_eq_true c3] at hcv
 rw [hcc] at hcv
 skip
 repeat' (first | refine runS ?_ | refine gS (fun _ => ?_) (fun _ => ?_) | refine bx rfl (fun _ => ?_) | refine al (fun _ => ?_) | refine lAN (t := 37) deps.enc deps.enc rfl ?_ | refine WX.callQ rfl hih rfl ?_ | refine WX.callQ rfl hcol rfl ?_ | refine WX.callQ rfl hpt rfl ?_ | refine WX.callQ rfl hcv rfl ?_ | refine sGW V3.z.enc cc.enc rfl rfl ?_ | fail)
 rename_i b19
 refine W.quiet Tryz.mix (by kernel_rfl) ?_
 skip
 repeat' (first | refine runS ?_ | refine gS (fun _ => ?_) (fun _ => ?_) | refine bx rfl (fun _ => ?_) | refine al (fun _ => ?_) | refine lAN (t := 37) deps.enc deps.enc rfl ?_ | refine WX.callQ rfl hih rfl ?_ | refine WX.callQ rfl hcol rfl ?_ | refine WX.callQ rfl hpt rfl ?_ | refine WX.callQ rfl hcv rfl ?_ | refine lAN (t := 163) cc.enc cc.enc rfl ?_ | fail)
 refine I.bs ?_
 refine WX.lit (ys := [clock]) rfl rfl rfl rfl rfl rfl (by decide) rfl (fun v0 h0 hs0 => ?_)
 skip
 repeat' (first | refine runS ?_ | refine gS (fun _ => ?_) (fun _ => ?_) | refine bx rfl (fun _ => ?_) | refine al (fun _ => ?_) | refine lAN (t := 37) deps.enc deps.enc rfl ?_ | refine WX.callQ rfl hih rfl ?_ | refine WX.callQ rfl hcol rfl ?_ | refine WX.callQ rfl hpt rfl ?_ | refine WX.callQ rfl hcv rfl ?_ | fail)
 refine WX.nilH ?_
 refine WX.app rfl rfl (show IsSl 3 ([] : List Int) (.slice none 0 0) [] from IsSl.nil _) hs0.rs rfl rfl (by decide) (by show (2 * (0 + 1) + 256) * _ ≤ _; decide) rfl (fun v1 h1 hs1 => ?_)
 rw [nil_append] at hs1
 skip
 repeat' (first | refine runS ?_ | refine gS (fun _ => ?_) (fun _ => ?_) | refine bx rfl (fun _ => ?_) | refine al (fun _ => ?_) | refine lAN (t := 37) deps.enc deps.enc rfl ?_ | refine WX.callQ rfl hih rfl ?_ | refine WX.callQ rfl hcol rfl ?_ | refine WX.callQ rfl hpt rfl ?_ | refine WX.callQ rfl hcv rfl ?_ | fail)
 refine W.loop (α := Nat × Value × Hp) (fun x => x.1 ≤ s.lg.length ∧ IsSl 3 (clock :: (s.lg.take x.1).map (·.ct)) x.2.1 x.2.2) (fun x => [(0, .pointer (some ⟨b, 0, none⟩)), (1, .string key), (2, .string val), (3, .bool dead), (6, .int .i64 cl), (7, .int .i64 op), (12, .pointer (some ⟨b12, 0, none⟩)), (19, .pointer (some ⟨b19, 0, none⟩)), (20, x.2.1), (21, .int .i64 (x.1 : Int))])
  (fun x => [x.2.2, ClBk b19 cc, VcBk b12 deps, DsBk b s (.slice vp s.lg.length vc), hv, R]) (fun x => s.lg.length - x.1) (0, v1, h1) ⟨Nat.zero_le _, hs1⟩ (by repeat (first | exact Fsub.nil | refine Fsub.cons rfl ?_)) (Hsub.of_picks inferInstance) ?_
 rintro ⟨i, w, hw⟩ ⟨hi, hsw⟩
 simp only [] at hi hsw ⊢
 have hwl : (clock :: (s.lg.take i).map (·.ct)).length ≤ 257 := by rw [length_cons, length_map, length_take]; omega
 by_cases hlt : i < s.lg.length
 ·obtain ⟨x, hx⟩ : ∃ x, s.lg[i]? = some x := ⟨_, List.getElem?_eq_getElem hlt⟩
  skip
  repeat' (first | refine runS ?_ | refine gS (fun _ => ?_) (fun _ => ?_) | refine bx rfl (fun _ => ?_) | refine al (fun _ => ?_) | refine lAN (t := 37) deps.enc deps.enc rfl ?_ | refine WX.callQ rfl hih rfl ?_ | refine WX.callQ rfl hcol rfl ?_ | refine WX.callQ rfl hpt rfl ?_ | refine WX.callQ rfl hcv rfl ?_ | fail)
  refine I.bs ?_
  refine WX.lit (ys := [x.ct]) rfl rfl rfl rfl rfl rfl (by decide) rfl (fun v2 h2 hs2 => ?_)
  skip
  repeat' (first | refine runS ?_ | refine gS (fun _ => ?_) (fun _ => ?_) | refine bx rfl (fun _ => ?_) | refine al (fun _ => ?_) | refine lAN (t := 37) deps.enc deps.enc rfl ?_ | refine WX.callQ rfl hih rfl ?_ | refine WX.callQ rfl hcol rfl ?_ | refine WX.callQ rfl hpt rfl ?_ | refine WX.callQ rfl hcv rfl ?_ | fail)
  refine WX.app rfl rfl hsw hs2.rs rfl rfl (by decide) (by simp only [length_cons, length_nil] at hwl ⊢; omega) rfl (fun v3 h3 hs3 => ?_)
  have hs3 : IsSl 3 (clock :: (s.lg.take (i + 1)).map (·.ct)) v3 h3 := by rw [take_add_one, hx, map_append]; exact hs3
  skip
  repeat' (first | refine runS ?_ | refine gS (fun _ => ?_) (fun _ => ?_) | refine bx rfl (fun _ => ?_) | refine al (fun _ => ?_) | refine lAN (t := 37) deps.enc deps.enc rfl ?_ | refine WX.callQ rfl hih rfl ?_ | refine WX.callQ rfl hcol rfl ?_ | refine WX.callQ rfl hpt rfl ?_ | refine WX.callQ rfl hcv rfl ?_ | fail)
  exact D.rd (i + 1, v3, h3) ⟨by simp only []; omega, hs3⟩ (by simp only []; omega)
 obtain rfl : i = s.lg.length := by omega
 rw [take_length] at hsw hwl
 have hnx := dnext_ct s.dc s.rg hsw.rs (by omega)
 obtain ⟨wp, wc, rfl⟩ := hsw.rs.len
 clear hsw hs1
 rw [show clock :: s.lg.map (·.ct) = s.dseen clock from rfl] at hnx
 skip
 repeat' (first | refine runS ?_ | refine gS (fun _ => ?_) (fun _ => ?_) | refine bx rfl (fun _ => ?_) | refine al (fun _ => ?_) | refine lAN (t := 37) deps.enc deps.enc rfl ?_ | refine WX.callQ rfl hih rfl ?_ | refine WX.callQ rfl hcol rfl ?_ | refine WX.callQ rfl hpt rfl ?_ | refine WX.callQ rfl hcv rfl ?_ | fail)
 refine W.mixA 8 [true, true, true, true, true, true, true, true, true, false, true, true, true, false, false] 13 [DsBk b s (.slice vp s.lg.length vc)] Tryz.mix (by kernel_rfl) rfl ?_
 skip
 repeat' (first | refine runS ?_ | refine gS (fun _ => ?_) (fun _ => ?_) | refine bx rfl (fun _ => ?_) | refine al (fun _ => ?_) | refine lAN (t := 37) deps.enc deps.enc rfl ?_ | refine WX.callQ rfl hih rfl ?_ | refine WX.callQ rfl hcol rfl ?_ | refine WX.callQ rfl hpt rfl ?_ | refine WX.callQ rfl hcv rfl ?_ | refine WX.callQ rfl hnx rfl ?_ | refine WA.un ?_ | refine WA.backU ?_ | refine WA.back ?_ | refine WA.an ?_ ?_ | refine WA.nil ?_ | fail)
 all_goals
  skip
  rename_i b22
  by_cases c4 : 256 ≤ s.len
  ·rw [if_pos (.inl c4)] at hp
   subst hp
   cases hno : dnextOk s.dc s.rg (s.dseen clock) with
   | false =>
    skip
    repeat' (first | refine runS ?_ | refine gS (fun _ => ?_) (fun _ => ?_) | refine bx rfl (fun _ => ?_) | refine al (fun _ => ?_) | refine lAN (t := 37) deps.enc deps.enc rfl ?_ | refine WX.callQ rfl hih rfl ?_ | refine WX.callQ rfl hcol rfl ?_ | refine WX.callQ rfl hpt rfl ?_ | refine WX.callQ rfl hcv rfl ?_ | refine sGW [.int .i64 0, .int .i64 0, .int .i64 0] (stampV false (mostI (s.dseen clock) + 1) s.dc s.rg) rfl rfl ?_ | refine WA.un ?_ | refine WA.backU ?_ | refine WA.back ?_ | refine WA.an ?_ ?_ | refine WA.nil ?_ | fail)
    exact D.fin2 [DsBk b s (.slice vp s.lg.length vc), hv] _ rfl rfl rfl ⟨rfl, _, hv, rfl, hs⟩
   | true =>
    skip
    repeat' (first | refine runS ?_ | refine gS (fun _ => ?_) (fun _ => ?_) | refine bx rfl (fun _ => ?_) | refine al (fun _ => ?_) | refine lAN (t := 37) deps.enc deps.enc rfl ?_ | refine WX.callQ rfl hih rfl ?_ | refine WX.callQ rfl hcol rfl ?_ | refine WX.callQ rfl hpt rfl ?_ | refine WX.callQ rfl hcv rfl ?_ | refine sGW [.int .i64 0, .int .i64 0, .int .i64 0] (stampV true (mostI (s.dseen clock) + 1) s.dc s.rg) rfl rfl ?_ | refine WA.un ?_ | refine WA.backU ?_ | refine WA.back ?_ | refine WA.an ?_ ?_ | refine WA.nil ?_ | fail)
    exact D.fin2 [DsBk b s (.slice vp s.lg.length vc), hv] _ rfl rfl rfl ⟨rfl, _, hv, rfl, hs⟩
  cases hno : dnextOk s.dc s.rg (s.dseen clock) with
  | false =>
   rw [if_pos (.inr hno)] at hp
   subst hp
   skip
   repeat' (first | refine runS ?_ | refine gS (fun _ => ?_) (fun _ => ?_) | refine bx rfl (fun _ => ?_) | refine al (fun _ => ?_) | refine lAN (t := 37) deps.enc deps.enc rfl ?_ | refine WX.callQ rfl hih rfl ?_ | refine WX.callQ rfl hcol rfl ?_ | refine WX.callQ rfl hpt rfl ?_ | refine WX.callQ rfl hcv rfl ?_ | refine sGW [.int .i64 0, .int .i64 0, .int .i64 0] (stampV false (mostI (s.dseen clock) + 1) s.dc s.rg) rfl rfl ?_ | refine WA.un ?_ | refine WA.backU ?_ | refine WA.back ?_ | refine WA.an ?_ ?_ | refine WA.nil ?_ | fail)
   exact D.fin2 [DsBk b s (.slice vp s.lg.length vc), hv] _ rfl rfl rfl ⟨rfl, _, hv, rfl, hs⟩
  | true =>
   rw [if_neg (fun h => h.elim c4 (fun h => by rw [hno] at h; cases h))] at hp
   skip
   repeat' (first | refine runS ?_ | refine gS (fun _ => ?_) (fun _ => ?_) | refine bx rfl (fun _ => ?_) | refine al (fun _ => ?_) | refine lAN (t := 37) deps.enc deps.enc rfl ?_ | refine WX.callQ rfl hih rfl ?_ | refine WX.callQ rfl hcol rfl ?_ | refine WX.callQ rfl hpt rfl ?_ | refine WX.callQ rfl hcv rfl ?_ | refine sGW [.int .i64 0, .int .i64 0, .int .i64 0] (stampV true (mostI (s.dseen clock) + 1) s.dc s.rg) rfl rfl ?_ | refine WA.un ?_ | refine WA.backU ?_ | refine WA.back ?_ | refine WA.an ?_ ?_ | refine WA.nil ?_ | fail)
   have hrs := (of_decide_eq_true hno).2
   have q0 : 0 ≤ s.dc := hrs.2.2.1
   have q3 : s.dc < 3 := hrs.2.2.2.1
   subst hcc
   have hj3 : s.dc.toNat < 3 := by omega
   have hg : (colF s.rg s.lg).enc[0 + s.dc.toNat * 1]? = some (.int .i64 ((colF s.rg s.lg).at s.dc.toNat)) := by rw [show 0 + s.dc.toNat * 1 = s.dc.toNat by omega]; exact (colF s.rg s.lg).enc_at hj3
   have hcr := colF_range s.rg ok.es hj3
   simp only [MC] at hcr
   refine W.mixN 8 (List.replicate 23 true ++ [false, false]) [DsBk b s (.slice vp s.lg.length vc), ClBk b19 (colF s.rg s.lg), StBk3 b22 (stampV true (mostI (s.dseen clock) + 1) s.dc s.rg)] Tryz.mix (by kernel_rfl) ?_
   skip
   repeat' (first | refine runS ?_ | refine gS (fun _ => ?_) (fun _ => ?_) | refine bx rfl (fun _ => ?_) | refine al (fun _ => ?_) | refine lAN (t := 37) deps.enc deps.enc rfl ?_ | refine WX.callQ rfl hih rfl ?_ | refine WX.callQ rfl hcol rfl ?_ | refine WX.callQ rfl hpt rfl ?_ | refine WX.callQ rfl hcv rfl ?_ | refine lN (colF s.rg s.lg).enc _ rfl ?_ (hc := hg) | refine lAN (t := 41) (stampV true (mostI (s.dseen clock) + 1) s.dc s.rg) (stampV true (mostI (s.dseen clock) + 1) s.dc s.rg) rfl ?_ | refine bdN (t := 39) [.int .i64 s.dc, .int .i64 s.rg, .int .i64 ((colF s.rg s.lg).at s.dc.toNat + 1)] ?_ | refine bdN (t := 43) (s.dentry0 key val dead V9.z clock cl op).enc ?_ | refine sGW Ent.z.enc (s.dentry0 key val dead V9.z clock cl op).enc rfl rfl ?_ | fail)
   rename_i b24
   refine W.mixN 8 [true, true, true, true, true, false, false, true, false] [VcBk b12 deps, DsBk b s (.slice vp s.lg.length vc)] Tryz.mix (by kernel_rfl) ?_
   skip
   repeat' (first | refine runS ?_ | refine gS (fun _ => ?_) (fun _ => ?_) | refine bx rfl (fun _ => ?_) | refine al (fun _ => ?_) | refine lAN (t := 37) deps.enc deps.enc rfl ?_ | refine WX.callQ rfl hih rfl ?_ | refine WX.callQ rfl hcol rfl ?_ | refine WX.callQ rfl hpt rfl ?_ | refine WX.callQ rfl hcv rfl ?_ | fail)
   refine WX.call rfl hpa rfl ?_
   rintro _ _ ⟨rfl, rfl⟩
   simp only [ca, na]
   skip
   repeat' (first | refine runS ?_ | refine gS (fun _ => ?_) (fun _ => ?_) | refine bx rfl (fun _ => ?_) | refine al (fun _ => ?_) | refine lAN (t := 37) deps.enc deps.enc rfl ?_ | refine WX.callQ rfl hih rfl ?_ | refine WX.callQ rfl hcol rfl ?_ | refine WX.callQ rfl hpt rfl ?_ | refine WX.callQ rfl hcv rfl ?_ | refine WX.callQ rfl htw rfl ?_ | refine sGN (s.dentry0 key val dead V9.z clock cl op).enc (twoV deps (dpastV s.lg)).enc (s.dentry key val dead deps clock cl op).enc rfl rfl ?_ | fail)
   have hen := dentR_ct (s.dentry key val dead deps clock cl op)
   generalize s.dentry key val dead deps clock cl op = e at hen hp ⊢
   by_cases hE : EntR e
   ·rw [decide_eq_true hE] at hen
    rw [if_neg (fun h => h hE)] at hp
    subst hp
    skip
    repeat' (first | refine runS ?_ | refine gS (fun _ => ?_) (fun _ => ?_) | refine bx rfl (fun _ => ?_) | refine al (fun _ => ?_) | refine lAN (t := 37) deps.enc deps.enc rfl ?_ | refine WX.callQ rfl hih rfl ?_ | refine WX.callQ rfl hcol rfl ?_ | refine WX.callQ rfl hpt rfl ?_ | refine WX.callQ rfl hcv rfl ?_ | refine lAN (t := 43) e.enc e.enc rfl ?_ | refine WX.callQ rfl hen rfl ?_ | fail)
    refine W.mixN 8 [true, true, true, true, true, true, false, false] [DsBk b s (.slice vp s.lg.length vc), EnBk b24 e] Tryz.mix (by kernel_rfl) ?_
    skip
    repeat' (first | refine runS ?_ | refine gS (fun _ => ?_) (fun _ => ?_) | refine bx rfl (fun _ => ?_) | refine al (fun _ => ?_) | refine lAN (t := 37) deps.enc deps.enc rfl ?_ | refine WX.callQ rfl hih rfl ?_ | refine WX.callQ rfl hcol rfl ?_ | refine WX.callQ rfl hpt rfl ?_ | refine WX.callQ rfl hcv rfl ?_ | refine lAN (t := 43) e.enc e.enc rfl ?_ | fail)
    refine I.bs ?_
    refine WX.lit (ys := [e]) rfl rfl rfl rfl rfl rfl (by decide) rfl (fun v2 h2 hs2 => ?_)
    skip
    repeat' (first | refine runS ?_ | refine gS (fun _ => ?_) (fun _ => ?_) | refine bx rfl (fun _ => ?_) | refine al (fun _ => ?_) | refine lAN (t := 37) deps.enc deps.enc rfl ?_ | refine WX.callQ rfl hih rfl ?_ | refine WX.callQ rfl hcol rfl ?_ | refine WX.callQ rfl hpt rfl ?_ | refine WX.callQ rfl hcv rfl ?_ | fail)
    refine WX.app rfl rfl hs hs2.rs rfl rfl (by decide) (by simp only [length_cons, length_nil]; omega) rfl (fun v3 h3 hs3 => ?_)
    obtain ⟨p3, c3', e3⟩ := hs3.rs.len
    subst e3
    skip
    repeat' (first | refine runS ?_ | refine gS (fun _ => ?_) (fun _ => ?_) | refine bx rfl (fun _ => ?_) | refine al (fun _ => ?_) | refine lAN (t := 37) deps.enc deps.enc rfl ?_ | refine WX.callQ rfl hih rfl ?_ | refine WX.callQ rfl hcol rfl ?_ | refine WX.callQ rfl hpt rfl ?_ | refine WX.callQ rfl hcv rfl ?_ | fail)
    refine I.st ?_
    refine stN (s.cells (.slice vp s.lg.length vc)) (CS.cells (s.push e) (.slice p3 (s.lg ++ [e]).length c3')) rfl rfl ?_
    skip
    repeat' (first | refine runS ?_ | refine gS (fun _ => ?_) (fun _ => ?_) | refine bx rfl (fun _ => ?_) | refine al (fun _ => ?_) | refine lAN (t := 37) deps.enc deps.enc rfl ?_ | refine WX.callQ rfl hih rfl ?_ | refine WX.callQ rfl hcol rfl ?_ | refine WX.callQ rfl hpt rfl ?_ | refine WX.callQ rfl hcv rfl ?_ | fail)
    have hpl : ((s.lg ++ [e]).length : Int) = s.len + 1 := by rw [hlen, length_append]; rfl
    rw [hpl]
    exact D.fin2 [DsBk b (s.push e) (.slice p3 (s.lg ++ [e]).length c3'), h3] _ rfl rfl rfl ⟨rfl, _, h3, rfl, hs3⟩
   ·rw [decide_eq_false hE] at hen
    rw [if_pos hE] at hp
    subst hp
    skip
    repeat' (first | refine runS ?_ | refine gS (fun _ => ?_) (fun _ => ?_) | refine bx rfl (fun _ => ?_) | refine al (fun _ => ?_) | refine lAN (t := 37) deps.enc deps.enc rfl ?_ | refine WX.callQ rfl hih rfl ?_ | refine WX.callQ rfl hcol rfl ?_ | refine WX.callQ rfl hpt rfl ?_ | refine WX.callQ rfl hcv rfl ?_ | refine lAN (t := 43) e.enc e.enc rfl ?_ | refine WX.callQ rfl hen rfl ?_ | fail)
    exact D.fin2 [DsBk b s (.slice vp s.lg.length vc), hv] _ rfl rfl rfl ⟨rfl, _, hv, rfl, hs⟩
end Go.Proofs.YtejfahjgfedliaaGreat

namespace Go.Proofs.YtejfahjgfedliaaGreat
open Go Go.Sl List
structure LI (l : List Lf) (c : CS) (N : Int) : Prop where
 lg : LgOk l
 tl : LTell l c
 ok : CsOk c
 n : lastN l ≤ N
section
variable {l : List Lf} {c : CS} {N : Int}
theorem LI.mono {M : Int} (h : LI l c N) (hm : N ≤ M) : LI l c M := ⟨h.lg, h.tl, h.ok, Int.le_trans h.n hm⟩
theorem LI.chain {c' : CS} (h : LI l c N) (ok : CsOk c') (h1 : c'.nd = c.nd) (h2 : c'.co = c.co) (h3 : c'.sn = c.sn) (h4 : c'.bs = c.bs) (h5 : c'.lg = c.lg) (h6 : c'.du = c.du) : LI l c' N :=
 ⟨h.lg, ⟨by rw [h1, h2]; exact h.tl.x, by rw [h1, h3]; exact h.tl.sn, by rw [h1, h4]; exact h.tl.bs, by rw [h1, h5]; exact h.tl.es, by rw [h5, h6]; exact h.tl.du⟩, ok, h.n⟩
theorem LI.settle (h : LI l c N) : LI l c.settle N := by
 obtain ⟨-, -, h3, h4, h5, h6, h7, h8, -, -⟩ := settle_same c
 exact h.chain h.ok.settle h3 h4 h5 h6 h7 h8
theorem LI.nil (dc rg nd : Int) : LI [] (CS.new dc rg nd) 0 :=
 ⟨⟨LOk.nil, (fun r hr => nomatch hr), (fun r hr => nomatch hr), Nat.le_refl _⟩, ⟨rfl, rfl, rfl, rfl, Nat.zero_le _⟩, CsOk.new dc rg nd, Int.le_refl _⟩
theorem LI.push (h : LI l c N) {e : Ent} (he : EntR e) (hl : c.lg.length < 256) (hr : roomB l 1 = true) (hN : N < 1099511627776) : LI (ladd1 l (recW e)).1 (c.push e) (N + 1) := by
 have hn := h.n
 obtain ⟨-, h2, h3, h4⟩ := ladd_room h.lg.ok (n := 1) (by decide) hr (by omega) (recW_code he)
 have htop := h.lg.top
 have hdu := h.tl.du
 have hd := h.ok.du
 have hlen : c.len = (c.lg.length : Int) := rfl
 have e1 : rbF (c.push e).nd (outF (recs (ladd1 l (recW e)).1)) = ⟨(rbF c.nd (outF (recs l))).x, (rbF c.nd (outF (recs l))).sn, (rbF c.nd (outF (recs l))).bs, (rbF c.nd (outF (recs l))).es ++ [e]⟩ := by
  rw [h2, outF_snoc, if_neg (show ¬ (recW e).k = 3 from (by decide : ¬ (1 : Int) = 3)), rbF_snoc]; rfl
 refine ⟨⟨h.lg.ok.add1 _, fun r hr => ?_, ?_, ?_⟩, ⟨?_, ?_, ?_, ?_, ?_⟩, h.ok.push hl he, by omega⟩
 ·rw [h2] at hr
  rcases mem_append.1 hr with hr | hr
  ·exact h.lg.re r hr
  ·rw [mem_singleton.1 hr]; exact .inl ⟨rfl, he⟩
 ·rw [h2, h3, drop_append_of_le_length htop]
  intro r hr
  rcases mem_append.1 hr with hr | hr
  ·exact h.lg.loose r hr
  ·rw [mem_singleton.1 hr]; rfl
 ·rw [h2, h3, length_append]; omega
 ·rw [e1]; exact h.tl.x
 ·rw [e1]; exact h.tl.sn
 ·rw [e1]; exact h.tl.bs
 ·rw [e1]; show _ ++ [e] = c.lg ++ [e]; rw [h.tl.es]
 ·rw [h2, h3, length_append]
  show _ ≤ (c.lg ++ [e]).length - c.du.toNat
  rw [length_append]
  simp only [length_cons, length_nil]
  omega
theorem grown_push (l : List Lf) (c c' : CS) (e : Ent) (h : c'.lg = c.lg ++ [e]) : grownL l c' c.len = (ladd1 l (recW e)).1 := by
 unfold grownL
 have h1 : c'.len = c.len + 1 := by unfold CS.len; rw [h]; simp
 rw [if_pos (by omega), h, show c.len.toNat = c.lg.length from rfl, getD_eq_getElem?_getD, List.getElem?_concat_length]; rfl
theorem grown_same (l : List Lf) (c : CS) : grownL l c c.len = l := by unfold grownL; rw [if_neg (by omega)]
def Grew (c c' : CS) : Prop := c' = c ∨ ∃ e, EntR e ∧ c.lg.length < 256 ∧ (c' = c.push e ∨ c' = (c.push e).settle)
theorem LI.grew (h : LI l c N) {c' : CS} (hg : Grew c c') (hr : roomB l 1 = true) (hN : N < 1099511627776) : LI (grownL l c' c.len) c' (N + 1) := by
 rcases hg with rfl | ⟨e, he, hl, rfl | rfl⟩
 ·rw [grown_same]; exact h.mono (by omega)
 ·rw [grown_push l c _ e rfl]; exact h.push he hl hr hN
 ·rw [grown_push l c _ e (settle_same (c.push e)).2.2.2.2.2.2.1]; exact (h.push he hl hr hN).settle
theorem Grew.take (c : CS) (f ep ix : Int) (e : Ent) : Grew c (c.take f ep ix e).2 := by
 unfold CS.take
 split
 ·rename_i h
  exact .inr ⟨e, h.2.2.2.2.1, by have := h.2.2.2.2.2; simp only [CS.len] at this; omega, .inr rfl⟩
 ·exact .inl rfl
theorem Grew.dtake (c : CS) (f ep ix : Int) (e : Ent) : Grew c (c.dtake f ep ix e).2 := by
 unfold CS.dtake
 split
 ·rename_i h
  exact .inr ⟨e, h.2.2.2.2.1, by have := h.2.2.2.2.2; simp only [CS.len] at this; omega, .inl rfl⟩
 ·exact .inl rfl
theorem Grew.inject (c : CS) (e : Ent) : Grew c (c.inject e).2 := by
 unfold CS.inject
 repeat' split
 all_goals first | exact .inl rfl | skip
 rename_i h1 _ _ _ h2
 simp only [not_or, Classical.not_not] at h1
 exact .inr ⟨e, h1.1, by simp only [CS.len] at h2; omega, .inr rfl⟩
theorem Grew.dinject (c : CS) (e : Ent) : Grew c (c.dinject e).2 := by
 unfold CS.dinject
 repeat' split
 all_goals first | exact .inl rfl | skip
 rename_i h1 _ _ _ h2
 simp only [not_or, Classical.not_not] at h1
 exact .inr ⟨e, h1.1, by simp only [CS.len] at h2; omega, .inl rfl⟩
theorem Grew.put (c : CS) (key val : ByteArray) (dead : Bool) (deps : V9) (clock cl op : Int) : Grew c (c.putS key val dead deps clock cl op).2 := by
 unfold CS.putS
 repeat' split
 all_goals first | exact .inl rfl | skip
 rename_i h1 h2
 exact .inr ⟨_, Classical.not_not.1 h2, by simp only [not_or, CS.len] at h1; omega, .inr rfl⟩
theorem Grew.dput (c : CS) (key val : ByteArray) (dead : Bool) (deps : V9) (clock cl op : Int) : Grew c (c.dput key val dead deps clock cl op).2 := by
 unfold CS.dput
 repeat' split
 all_goals first | exact .inl rfl | skip
 rename_i h1 h2
 exact .inr ⟨_, Classical.not_not.1 h2, by simp only [not_or, CS.len] at h1; omega, .inl rfl⟩
theorem Grew.ok {c c' : CS} (hg : Grew c c') (ok : CsOk c) : CsOk c' := by
 rcases hg with rfl | ⟨e, he, hl, rfl | rfl⟩
 ·exact ok
 ·exact ok.push hl he
 ·exact (ok.push hl he).settle
theorem Grew.nd {c c' : CS} (hg : Grew c c') : c'.dc = c.dc ∧ c'.rg = c.rg ∧ c'.nd = c.nd := by
 rcases hg with rfl | ⟨e, he, hl, rfl | rfl⟩
 ·exact ⟨rfl, rfl, rfl⟩
 ·exact ⟨rfl, rfl, rfl⟩
 ·obtain ⟨h1, h2, h3, -⟩ := settle_same (c.push e); exact ⟨h1, h2, h3⟩
theorem LI.sync (h : LI l c N) : LI (lsync l) c.sync N := by
 have h1 : LI (lsync l) { c with du := c.len } N := by
  refine ⟨⟨h.lg.ok.sync, by rw [recs_sync]; exact h.lg.re, ?_, by rw [recs_sync, sumK_sync]; exact Nat.le_refl _⟩, ⟨by rw [recs_sync]; exact h.tl.x, by rw [recs_sync]; exact h.tl.sn, by rw [recs_sync]; exact h.tl.bs, by rw [recs_sync]; exact h.tl.es, ?_⟩, ⟨h.ok.co, ⟨h.ok.bs.1, Int.le_trans h.ok.bs.2 h.ok.du.2⟩, ⟨Int.natCast_nonneg _, Int.le_refl _⟩, h.ok.len, h.ok.es⟩, by rw [lastN_sync]; exact h.n⟩
  ·rw [recs_sync, sumK_sync, drop_length]; intro r hr; cases hr
  ·rw [recs_sync, sumK_sync, Nat.sub_self]; exact Nat.zero_le _
 exact h1.settle
theorem LI.heard (h : LI l c N) (f ep du st : Int) : LI l (c.heard f ep du st).2 N := by
 have hok := h.ok.heard f ep du st
 unfold CS.heard at hok ⊢
 split
 ·rename_i hh
  rw [if_pos hh] at hok
  obtain ⟨-, -, h3, h4, h5, h6, h7, h8, -⟩ := heard0_same c f (mn du c.du) (mn st c.du)
  obtain ⟨-, -, s3, s4, s5, s6, s7, s8, -, -⟩ := settle_same (c.heard0 f (mn du c.du) (mn st c.du))
  exact h.chain hok (s3.trans h3) (s4.trans h4) (s5.trans h5) (s6.trans h6) (s7.trans h7) (s8.trans h8)
 ·exact h
theorem cfO_chOf {x : Cfg} (h : RightC x) : cfO (some (chOf x)) = x := h.2.1
theorem code_recN {x : Cfg} (h : RightC x) {b : Int} (b0 : 0 ≤ b) (b1 : b ≤ MC) : (recN x b).code = 0 := by
 have := recN_code h.2.2 b0 b1
 rwa [h.2.1] at this
theorem ladd_cut {n : Int} {r : Rec} (hc : r.code = 0) : (ladd1 [⟨n, [cutR], 1⟩] r).1 = [⟨n, [cutR, r], 1⟩] := by
 have hle := (Rec.good hc).fr_le
 have hcl := (Rec.good cutR_code).fr_le
 have hb : (bytes [cutR]).length = cutR.fr.length := by unfold bytes; simp
 unfold ladd1
 rw [if_neg (by simpa using hc)]
 simp only [List.getLast?_singleton, dropLast_singleton]
 rw [if_neg (by rw [hb]; omega), if_neg (by rw [dk_used]; simp only [map_cons, map_nil, sum_cons, sum_nil]; rw [hb]; omega)]
 rfl
theorem LI.enter (h : LI l c N) (x : Cfg) (hN : N + 2 < 1099511627776) : LI (entLS l c x).2.2 (entLS l c x).2.1 (N + 2) := by
 have hn := h.n
 have hlo := (lastN_range h.lg.ok).1
 unfold entLS
 cases hr : roomB l 2 with
 | false => rw [if_neg (by decide)]; exact h.mono (by omega)
 | true =>
  rw [if_pos rfl]
  by_cases hR : RightC x
  rotate_left
  ·have e : c.enter x = ((false, 1), c) := if_pos hR
   rw [e, if_neg (show ¬ (1 : Int) = 0 by decide)]; exact h.mono (by omega)
  by_cases hep : x.ep ≤ (cfO c.co).ep
  ·have e : c.enter x = ((false, 80), c) := by unfold CS.enter; rw [if_neg (fun h => h hR), if_pos hep]
   rw [e, if_neg (show ¬ (80 : Int) = 0 by decide)]; exact h.mono (by omega)
  have e : c.enter x = ((c.resets x, 0), (c.enter0 x).settle) := by unfold CS.enter; rw [if_neg (fun h => h hR), if_neg hep]
  have hok : CsOk (c.enter0 x) := h.ok.enter0 hR
  have hnn := since_nn hR.2.2 c.nd
  rw [e, if_pos rfl]
  simp only []
  rw [show (c.enter0 x).settle.bs = (c.enter0 x).bs from (settle_same _).2.2.2.2.2.1]
  refine LI.settle ?_
  by_cases hs : sinceO (some (chOf x)) c.nd ≠ 0 ∧ sinceO (some (chOf x)) c.nd ≠ c.sn
  ·have e1 : c.enter0 x = ⟨c.dc, c.rg, c.nd, some (chOf x), sinceO (some (chOf x)) c.nd, 0, [], 0, 0, 0, 0, true⟩ := if_pos hs
   have e2 : c.resets x = true := decide_eq_true hs
   have hc : (recN x (c.enter0 x).bs).code = 0 := code_recN hR (by rw [e1]; exact Int.le_refl 0) (by rw [e1]; show (0 : Int) ≤ MC; decide)
   rw [e2, if_pos rfl, lcut_room h.lg.ok hr (by omega) hlo, ladd_cut hc]
   generalize hbs : (c.enter0 x).bs = bs at hc ⊢
   have hb0 : bs = 0 := by rw [← hbs, e1]
   subst hb0
   rw [e1] at hok ⊢
   have hsy : lsync [⟨lastN l + 1, [cutR, recN x 0], 1⟩] = [⟨lastN l + 1, [cutR, recN x 0], 2⟩] := rfl
   rw [hsy]
   have okc := h.lg.ok.cut
   rw [lcut_room h.lg.ok hr (by omega) hlo] at okc
   have ok2 := (okc.add1 (recN x 0)).sync
   rw [ladd_cut hc, hsy] at ok2
   have hrb : rbF c.nd (outF (recs [⟨lastN l + 1, [cutR, recN x 0], 2⟩])) = ⟨x, sinceO (some (chOf x)) c.nd, 0, []⟩ := by
    have : rbF c.nd (outF (recs [⟨lastN l + 1, [cutR, recN x 0], 2⟩])) = rbStep c.nd Rb.z (recN x 0) := rfl
    rw [this]
    unfold rbStep
    rw [if_neg (show ¬ (recN x 0).k = 1 from (by decide : ¬ (2 : Int) = 1)), show (recN x 0).c = x from rfl, if_pos (by omega)]; rfl
   refine ⟨⟨ok2, fun r hr => ?_, (fun r hr => nomatch hr), Nat.le_refl 2⟩, ⟨?_, ?_, ?_, ?_, Nat.zero_le _⟩, hok, ?_⟩
   ·rcases mem_cons.1 hr with rfl | hr
    ·exact .inr (.inr rfl)
    ·rw [mem_singleton.1 hr]; exact .inr (.inl ⟨rfl, hR⟩)
   ·show (rbF c.nd _).x = _; rw [hrb]; exact (cfO_chOf hR).symm
   ·show (rbF c.nd _).sn = _; rw [hrb]
   ·show (rbF c.nd _).bs = _; rw [hrb]
   ·show (rbF c.nd _).es = _; rw [hrb]
   ·show lastN l + 1 ≤ _; omega
  ·have e1 : c.enter0 x = ⟨c.dc, c.rg, c.nd, some (chOf x), c.sn, c.len, c.lg, c.len, c.st, 0, 0, true⟩ := if_neg hs
   have e2 : c.resets x = false := decide_eq_false hs
   have hll := h.ok.len
   have hlen : c.len = (c.lg.length : Int) := rfl
   have hb1 : (c.enter0 x).bs = c.len := by rw [e1]
   have hc : (recN x (c.enter0 x).bs).code = 0 := code_recN hR (by rw [hb1]; omega) (by rw [hb1]; simp only [MC]; omega)
   rw [e2, if_neg (by decide)]
   obtain ⟨-, g2, g3, g4⟩ := ladd_room h.lg.ok (n := 2) (by decide) hr (by omega) hc
   rw [hb1] at g2 g3 g4 hc ⊢
   rw [e1] at hok ⊢
   have hrb : rbF c.nd (outF (recs (lsync (ladd1 l (recN x c.len)).1))) = ⟨x, c.sn, c.len, c.lg⟩ := by
    rw [recs_sync, g2, outF_snoc, if_neg (show ¬ (recN x c.len).k = 3 from (by decide : ¬ (2 : Int) = 3)), rbF_snoc]
    unfold rbStep
    rw [if_neg (show ¬ (recN x c.len).k = 1 from (by decide : ¬ (2 : Int) = 1)), show (recN x c.len).c = x from rfl, h.tl.sn, h.tl.es]
    congr 1
    split
    ·rename_i hp
     exact Classical.byContradiction fun hne => hs ⟨by omega, hne⟩
    ·rfl
   refine ⟨⟨(h.lg.ok.add1 _).sync, fun r hr => ?_, ?_, by rw [recs_sync, sumK_sync]; exact Nat.le_refl _⟩, ⟨?_, ?_, ?_, ?_, ?_⟩, hok, ?_⟩
   ·rw [recs_sync, g2] at hr
    rcases mem_append.1 hr with hr | hr
    ·exact h.lg.re r hr
    ·rw [mem_singleton.1 hr]; exact .inr (.inl ⟨rfl, hR⟩)
   ·rw [recs_sync, sumK_sync, drop_length]; intro r hr; cases hr
   ·show (rbF c.nd _).x = _; rw [hrb]; exact (cfO_chOf hR).symm
   ·show (rbF c.nd _).sn = _; rw [hrb]
   ·show (rbF c.nd _).bs = _; rw [hrb]
   ·show (rbF c.nd _).es = _; rw [hrb]
   ·rw [recs_sync, sumK_sync, Nat.sub_self]; exact Nat.zero_le _
   ·rw [lastN_sync]; omega
def CS.again (c : CS) (rs : List Rec) : CS := CS.restore c.dc c.rg c.nd (rbF c.nd (outF rs)).x (rbF c.nd (outF rs)).sn (rbF c.nd (outF rs)).bs (rbF c.nd (outF rs)).es
theorem sumK_full {l : List Lf} (h : ∀ f ∈ l, f.full = f) : sumK l = (recs l).length := by
 have e : lsync l = l := by
  unfold lsync
  conv => rhs; rw [← map_id l]
  exact map_congr_left h
 rw [← sumK_sync, e]
theorem outF_mem (rs : List Rec) : ∀ r ∈ outF rs, r ∈ rs ∧ r.k ≠ 3 := by
 have key : ∀ (rs o : List Rec), ∀ r ∈ rs.foldl (fun o r => if r.k = 3 then [] else o ++ [r]) o, r ∈ o ∨ (r ∈ rs ∧ r.k ≠ 3) := by
  intro rs
  induction rs with
  | nil => intro o r h; exact .inl h
  | cons x t ih =>
   intro o r h
   rw [foldl_cons] at h
   rcases ih _ r h with h | h
   ·split at h
    ·cases h
    ·rename_i hx
     rcases mem_append.1 h with h | h
     ·exact .inl h
     ·rw [mem_singleton.1 h]; exact .inr ⟨mem_cons_self .., hx⟩
   ·exact .inr ⟨mem_cons_of_mem _ h.1, h.2⟩
 intro r h
 rcases key rs [] r h with h | h
 ·cases h
 ·exact h
theorem LI.restart {l' : List Lf} {m : Nat} (h : LI l c N) (ok' : LOk l') (hf : ∀ f ∈ l', f.full = f) (hk : sumK l ≤ m) (hm : m ≤ (recs l).length) (hr : recs l' = (recs l).take m) (hn : lastN l' ≤ lastN l) :
  LI l' (c.again (recs l')) N ∧ c.again (recs l') = CS.restore c.dc c.rg c.nd (cfO c.co) c.sn c.bs (c.lg.take (c.lg.length - ((recs l).length - m))) ∧ (c.again (recs l')).co = c.co ∧ (c.again (recs l')).sn = c.sn ∧ (c.again (recs l')).bs = c.bs ∧
   (c.again (recs l')).lg = c.lg.take (c.lg.length - ((recs l).length - m)) ∧ (c.again (recs l')).du = (c.again (recs l')).len ∧ c.du.toNat ≤ c.lg.length - ((recs l).length - m) := by
 have hn0 := h.n
 have htop := h.lg.top
 have hdu := h.tl.du
 have hd := h.ok.du
 have hlen : c.len = (c.lg.length : Int) := rfl
 obtain ⟨j, rfl⟩ : ∃ j, m = sumK l + j := ⟨m - sumK l, by omega⟩
 obtain ⟨A, hA⟩ : ∃ A, (recs l).take (sumK l) = A := ⟨_, rfl⟩
 obtain ⟨B, hB⟩ : ∃ B, (recs l).drop (sumK l) = B := ⟨_, rfl⟩
 have hAB : recs l = A ++ B := by rw [← hA, ← hB, take_append_drop]
 have hBl : B.length = (recs l).length - sumK l := by rw [← hB, length_drop]
 have hB1 : ∀ r ∈ B, r.k = 1 := by rw [← hB]; exact h.lg.loose
 have hr2 : recs l' = A ++ B.take j := by rw [hr, take_add, hA, hB]
 have hBj : ∀ r ∈ B.take j, r.k = 1 := fun r hr => hB1 r (mem_of_mem_take hr)
 have e1 : rbF c.nd (outF (recs l)) = ⟨(rbF c.nd (outF A)).x, (rbF c.nd (outF A)).sn, (rbF c.nd (outF A)).bs, (rbF c.nd (outF A)).es ++ B.map (·.e)⟩ := by
  rw [hAB, outF_app_ents _ _ hB1, rbF_app, rb_ents _ _ _ hB1]
 have e2 : rbF c.nd (outF (recs l')) = ⟨(rbF c.nd (outF A)).x, (rbF c.nd (outF A)).sn, (rbF c.nd (outF A)).bs, (rbF c.nd (outF A)).es ++ (B.take j).map (·.e)⟩ := by
  rw [hr2, outF_app_ents _ _ hBj, rbF_app, rb_ents _ _ _ hBj]
 have t1 := h.tl.x
 have t2 := h.tl.sn
 have t3 := h.tl.bs
 have t4 := h.tl.es
 rw [e1] at t1 t2 t3 t4
 simp only [] at t1 t2 t3 t4
 have hll : c.lg.length = (rbF c.nd (outF A)).es.length + B.length := by rw [← t4]; simp
 have hes : (rbF c.nd (outF A)).es ++ (B.take j).map (·.e) = c.lg.take (c.lg.length - ((recs l).length - (sumK l + j))) := by
  rw [show c.lg.length - ((recs l).length - (sumK l + j)) = (rbF c.nd (outF A)).es.length + j by omega, ← t4, take_length_add_append, map_take]
 rw [t1, t2, t3, hes] at e2
 have hag : c.again (recs l') = CS.restore c.dc c.rg c.nd (cfO c.co) c.sn c.bs (c.lg.take (c.lg.length - ((recs l).length - (sumK l + j)))) := by unfold CS.again; rw [e2]
 have hdl : c.du.toNat ≤ c.lg.length - ((recs l).length - (sumK l + j)) := by omega
 generalize hK : c.lg.length - ((recs l).length - (sumK l + j)) = K at *
 have hlk : (c.lg.take K).length = K := by rw [length_take]; omega
 obtain ⟨r, hres⟩ : ∃ r, CS.restore c.dc c.rg c.nd (cfO c.co) c.sn c.bs (c.lg.take K) = r := ⟨_, rfl⟩
 obtain ⟨-, -, s3, s4, s5, s6, s7, s8, -, -⟩ := settle_same (CS.restore0 c.dc c.rg c.nd (cfO c.co) c.sn c.bs (c.lg.take K))
 have hco : (CS.restore0 c.dc c.rg c.nd (cfO c.co) c.sn c.bs (c.lg.take K)).co = c.co := by
  show (if RightC (cfO c.co) then some (chOf (cfO c.co)) else none) = c.co
  cases hc : c.co with
  | none => exact if_neg right_z
  | some d =>
   have okd := h.ok.co d hc
   show (if RightC d.cfg then some (chOf d.cfg) else none) = some d
   rw [if_pos (rightC_of okd), chOf_cfg (by have := okd.l4; omega)]
 have hbs : (CS.restore0 c.dc c.rg c.nd (cfO c.co) c.sn c.bs (c.lg.take K)).bs = c.bs := by
  show mx 0 (mn c.bs ((c.lg.take K).length : Int)) = c.bs
  rw [hlk]
  have := h.ok.bs
  unfold mx mn
  split <;> split <;> omega
 have s3 : (CS.restore c.dc c.rg c.nd (cfO c.co) c.sn c.bs (c.lg.take K)).nd = c.nd := s3
 have s4 : (CS.restore c.dc c.rg c.nd (cfO c.co) c.sn c.bs (c.lg.take K)).co = c.co := s4.trans hco
 have s5 : (CS.restore c.dc c.rg c.nd (cfO c.co) c.sn c.bs (c.lg.take K)).sn = c.sn := s5
 have s6 : (CS.restore c.dc c.rg c.nd (cfO c.co) c.sn c.bs (c.lg.take K)).bs = c.bs := s6.trans hbs
 have s7 : (CS.restore c.dc c.rg c.nd (cfO c.co) c.sn c.bs (c.lg.take K)).lg = c.lg.take K := s7
 have s8 : (CS.restore c.dc c.rg c.nd (cfO c.co) c.sn c.bs (c.lg.take K)).du = ((c.lg.take K).length : Int) := s8
 have hok : CsOk (CS.restore c.dc c.rg c.nd (cfO c.co) c.sn c.bs (c.lg.take K)) := CsOk.restore (by rw [hlk]; have := h.ok.len; omega) fun e he => h.ok.es e (mem_of_mem_take he)
 rw [hag]
 refine ⟨⟨⟨ok', fun x hx => h.lg.re x (by rw [hr] at hx; exact mem_of_mem_take hx), ?_, by rw [sumK_full hf]; exact Nat.le_refl _⟩, ⟨?_, ?_, ?_, ?_, ?_⟩, hok, by omega⟩, rfl, s4, s5, s6, s7, ?_, hdl⟩
 ·rw [sumK_full hf, drop_length]; intro x hx; cases hx
 ·rw [s3, s4, e2]
 ·rw [s3, s5, e2]
 ·rw [s3, s6, e2]
 ·rw [s3, s7, e2]
 ·rw [sumK_full hf, Nat.sub_self]; exact Nat.zero_le _
 ·rw [s8]; unfold CS.len; rw [s7]
end
inductive LSt where
 | up (l : List Lf) (c : CS) (t : Int)
 | dn (l : List Lf) (c : CS) (q : Nat)
def LSt.isUp : LSt → Bool
 | .up .. => true
 | .dn .. => false
def LSt.c0 : LSt → CS
 | .up _ c _ => c
 | .dn _ c _ => c
def LSt.l0 : LSt → List Lf
 | .up l _ _ => l
 | .dn l _ _ => l
def LSt.ch : LSt → CS
 | .up _ c _ => c
 | .dn _ c _ => CS.new c.dc c.rg c.nd
def LSt.dsk : LSt → DkS
 | .up l _ _ => dk l
 | .dn l _ q => ⟨crashL l q, []⟩
def LSt.ok (s : LSt) (N : Int) : Prop := LI s.l0 s.c0 N
structure LgAt (s : LSt) (cb d w : Nat) (v : Value) (hv : Hp) (seg t : Int) (hd : Hp) : Prop where
 sl : IsSl 43 s.ch.lg v hv
 dk : IsDk s.dsk d hd
 sg : s.isUp = true → seg = lastN s.l0
 tn : ∀ l c t', s = .up l c t' → t = t'
 nv : s.isUp = false → v = .slice none 0 0 ∧ hv = []
def IsLg (s : LSt) (b : Nat) (h : Hp) : Prop := ∃ cb d w v hv seg t hd, h = LgBk b cb s.c0.dc s.c0.rg s.c0.nd d w s.isUp ++ (CsBk cb s.ch v ++ (hv ++ (WBk w d seg t ++ hd))) ∧ LgAt s cb d w v hv seg t hd
def LSt.sync : LSt → LSt
 | .up l c t => .up (lsync l) c.sync t
 | .dn l c q => .dn l c q
def LSt.take (s : LSt) (fr ep ix : Int) (e : Ent) : Bool × LSt := match s with
 | .up l c t => ((takeLS l c fr ep ix e).1, .up (takeLS l c fr ep ix e).2.2 (takeLS l c fr ep ix e).2.1 t)
 | .dn l c q => (false, .dn l c q)
def LSt.inj (s : LSt) (e : Ent) : Int × LSt := match s with
 | .up l c t => ((injLS l c e).1, .up (injLS l c e).2.2 (injLS l c e).2.1 t)
 | .dn l c q => (52, .dn l c q)
def LSt.put (s : LSt) (key val : ByteArray) (dead : Bool) (deps : V9) (clock cl op : Int) : (Int × Int) × LSt := match s with
 | .up l c t => ((putLS l c key val dead deps clock cl op).1, .up (putLS l c key val dead deps clock cl op).2.2 (putLS l c key val dead deps clock cl op).2.1 t)
 | .dn l c q => ((0, 52), .dn l c q)
def LSt.enter (s : LSt) (x : Cfg) : (Bool × Int) × LSt := match s with
 | .up l c t => ((entLS l c x).1, .up (entLS l c x).2.2 (entLS l c x).2.1 t)
 | .dn l c q => ((false, 52), .dn l c q)
def LSt.heard (s : LSt) (f ep du st : Int) : Bool × LSt := match s with
 | .up l c t => ((c.heard f ep du st).1, .up l (c.heard f ep du st).2 t)
 | .dn l c q => (false, .dn l c q)
def LSt.crash (s : LSt) (keep : Int) : LSt := match s with
 | .up l c _ => .dn l c keep.toNat
 | .dn l c q => .dn l c q
section
variable {s : LSt} {N : Int}
theorem LSt.ok.mono {M : Int} (h : s.ok N) (hm : N ≤ M) : s.ok M := LI.mono h hm
theorem LSt.ok.sync (h : s.ok N) : s.sync.ok N := by
 cases s with
 | up l c t => exact LI.sync h
 | dn l c q => exact h
theorem LSt.ok.take (h : s.ok N) (hN : N < 1099511627776) (fr ep ix : Int) (e : Ent) : (s.take fr ep ix e).2.ok (N + 1) := by
 cases s with
 | up l c t =>
  have h : LI l c N := h
  show LI (takeLS l c fr ep ix e).2.2 (takeLS l c fr ep ix e).2.1 (N + 1)
  unfold takeLS
  split
  ·rename_i hr; exact h.grew (Grew.take c fr ep ix e) hr hN
  ·exact h.mono (by omega)
 | dn l c q => exact LI.mono h (by omega)
theorem LSt.ok.inj (h : s.ok N) (hN : N < 1099511627776) (e : Ent) : (s.inj e).2.ok (N + 1) := by
 cases s with
 | up l c t =>
  have h : LI l c N := h
  show LI (injLS l c e).2.2 (injLS l c e).2.1 (N + 1)
  unfold injLS
  split
  ·rename_i hr; exact h.grew (Grew.inject c e) hr hN
  ·exact h.mono (by omega)
 | dn l c q => exact LI.mono h (by omega)
theorem LSt.ok.put (h : s.ok N) (hN : N < 1099511627776) (key val : ByteArray) (dead : Bool) (deps : V9) (clock cl op : Int) : (s.put key val dead deps clock cl op).2.ok (N + 1) := by
 cases s with
 | up l c t =>
  have h : LI l c N := h
  show LI (putLS l c key val dead deps clock cl op).2.2 (putLS l c key val dead deps clock cl op).2.1 (N + 1)
  unfold putLS
  split
  ·rename_i hr; exact h.grew (Grew.put c key val dead deps clock cl op) hr hN
  ·exact h.mono (by omega)
 | dn l c q => exact LI.mono h (by omega)
theorem LSt.ok.enter (h : s.ok N) (hN : N + 2 < 1099511627776) (x : Cfg) : (s.enter x).2.ok (N + 2) := by
 cases s with
 | up l c t => exact LI.enter h x hN
 | dn l c q => exact LI.mono h (by omega)
theorem LSt.ok.heard (h : s.ok N) (f ep du st : Int) : (s.heard f ep du st).2.ok N := by
 cases s with
 | up l c t => exact LI.heard h f ep du st
 | dn l c q => exact h
theorem LSt.ok.crash (h : s.ok N) (keep : Int) : (s.crash keep).ok N := by
 cases s with
 | up l c t => exact h
 | dn l c q => exact h
end
def sameId (c c' : CS) : Prop := c'.dc = c.dc ∧ c'.rg = c.rg ∧ c'.nd = c.nd
theorem sameId.refl (c : CS) : sameId c c := ⟨rfl, rfl, rfl⟩
theorem sameId.trans {a b c : CS} (h : sameId a b) (k : sameId b c) : sameId a c := ⟨k.1.trans h.1, k.2.1.trans h.2.1, k.2.2.trans h.2.2⟩
theorem id_settle (c : CS) : sameId c c.settle := ⟨(settle_same c).1, (settle_same c).2.1, (settle_same c).2.2.1⟩
theorem id_sync (c : CS) : sameId c c.sync := id_settle { c with du := c.len }
theorem id_enter (c : CS) (x : Cfg) : sameId c (c.enter x).2 := by
 unfold CS.enter
 split
 ·exact sameId.refl c
 ·split
  ·exact sameId.refl c
  ·refine sameId.trans ?_ (id_settle (c.enter0 x))
   unfold CS.enter0
   split <;> exact ⟨rfl, rfl, rfl⟩
theorem id_heard (c : CS) (f ep du st : Int) : sameId c (c.heard f ep du st).2 := by
 unfold CS.heard
 split
 ·exact sameId.trans ⟨(heard0_same c f _ _).1, (heard0_same c f _ _).2.1, (heard0_same c f _ _).2.2.1⟩ (id_settle _)
 ·exact sameId.refl c
theorem id_again (c : CS) (rs : List Rec) : sameId c (c.again rs) := ⟨(settle_same _).1, (settle_same _).2.1, (settle_same _).2.2.1⟩
theorem id_take (l : List Lf) (c : CS) (fr ep ix : Int) (e : Ent) : sameId c (takeLS l c fr ep ix e).2.1 := by
 unfold takeLS; split
 ·exact (Grew.take c fr ep ix e).nd
 ·exact sameId.refl c
theorem id_inj (l : List Lf) (c : CS) (e : Ent) : sameId c (injLS l c e).2.1 := by
 unfold injLS; split
 ·exact (Grew.inject c e).nd
 ·exact sameId.refl c
theorem id_put (l : List Lf) (c : CS) (key val : ByteArray) (dead : Bool) (deps : V9) (clock cl op : Int) : sameId c (putLS l c key val dead deps clock cl op).2.1 := by
 unfold putLS; split
 ·exact (Grew.put c key val dead deps clock cl op).nd
 ·exact sameId.refl c
theorem id_ent (l : List Lf) (c : CS) (x : Cfg) : sameId c (entLS l c x).2.1 := by
 unfold entLS
 repeat' split
 all_goals first | exact sameId.refl c | exact id_enter c x
theorem heard_new (dc rg nd f ep du st : Int) : (CS.new dc rg nd).heard f ep du st = (false, CS.new dc rg nd) := by
 have hb : behindO (CS.new dc rg nd).co (CS.new dc rg nd).nd = -1 := by
  show behindO none nd = -1
  unfold behindO
  split
  ·rfl
  ·rfl
 unfold CS.heard
 rw [hb, if_neg (by omega)]
theorem frN_mono : ∀ (rs : List Rec) {p q : Nat}, p ≤ q → frN rs p ≤ frN rs q
 | [], _, _, _ => Nat.le_refl _
 | r :: t, p, q, h => by
  unfold frN
  split
  ·exact Nat.zero_le _
  ·rw [if_neg (by omega)]
   have := frN_mono t (p := p - r.fr.length) (q := q - r.fr.length) (by omega)
   omega
theorem frN_le : ∀ (rs : List Rec) (q : Nat), frN rs q ≤ rs.length
 | [], _ => Nat.le_refl _
 | r :: t, q => by
  unfold frN
  split
  ·exact Nat.zero_le _
  ·have := frN_le t (q - r.fr.length); simp only [length_cons]; omega
theorem keptN_mono : ∀ (l : List Lf) {p q : Nat}, (∀ f ∈ l, f.k ≤ f.rs.length) → p ≤ q → keptN l p ≤ keptN l q
 | [], _, _, _, _ => Nat.le_refl _
 | f :: t, p, q, hk, h => by
  have hf := hk f (mem_cons_self ..)
  unfold keptN
  split
  ·rw [if_pos (by omega)]
   have := keptN_mono t (p := p - (bytes (f.rs.drop f.k)).length) (q := q - (bytes (f.rs.drop f.k)).length) (fun x hx => hk x (mem_cons_of_mem _ hx)) (by omega)
   omega
  ·split
   ·have := frN_le (f.rs.drop f.k) p
    rw [length_drop] at this
    omega
   ·have := frN_mono (f.rs.drop f.k) h
    omega
theorem keptN_all : ∀ (l : List Lf) {q : Nat}, looseB l ≤ q → keptN l q = (recs l).length
 | [], _, _ => rfl
 | f :: t, q, h => by
  have hlb : looseB (f :: t) = (bytes (f.rs.drop f.k)).length + looseB t := by unfold looseB; simp
  unfold keptN
  rw [if_pos (by omega), keptN_all t (by omega)]
  unfold recs; simp
end Go.Proofs.YtejfahjgfedliaaGreat

namespace Go.Proofs.YtejfahjgfedliaaGreat
open Go Go.Sl Go.Proofs.Tryz List
abbrev DlBk (b cb d w : Nat) (up : Bool) (tn : Int) : Hp := [(b, .cells (List.toArray [.pointer (some ⟨cb, 0, none⟩), .pointer (some ⟨d, 0, none⟩), .pointer (some ⟨w, 0, none⟩), .bool up, .int .i64 tn]) 95 (0, 0))]
def DPost (b cb d w : Nat) (torn tn : Int) (c : CS) (l : List Lf) (T : Int) (H' : HH) : Prop :=
 ∃ v hv hd, H' = [DlBk b cb d w true tn, DsBk cb c v, hv, VBk w d (lastN l) torn, hd] ∧ IsSl 43 c.lg v hv ∧ RD l d hd T
theorem dlnew_ct (dc rg nd : Int) : Ct prog 13 [.int .i64 dc, .int .i64 rg, .int .i64 nd] []
  (fun r H' => ∃ b cb d w hd, r = .pointer (some ⟨b, 0, none⟩) ∧ H' = [DlBk b cb d w true 0, DsBk cb (CS.new dc rg nd) (.slice none 0 0), VBk w d (lastN []) 0, hd] ∧ RD [] d hd 0) := by
 refine Ct.mk' func13 rfl rfl rfl (fun g R => ?_)
 try simp only [ca]
 simp only [na]
 try refine runS ?_
 refine WX.call rfl (dcnew_ct dc rg nd) rfl ?_
 rintro _ _ ⟨cb, rfl, rfl⟩
 simp only [ca, na]
 skip
 refine WX.call rfl rnew_ct rfl ?_
 rintro _ _ ⟨d, h0, rfl, rfl, hd0⟩
 have hd0 : RD [] d h0 0 := ⟨[], 0, LR.nil, Int.le_refl 0, hd0⟩
 simp only [ca, na]
 repeat' (first | refine runS ?_ | refine bx rfl (fun _ => ?_) | refine bdN [.pointer (some ⟨cb, 0, none⟩), .pointer (some ⟨d, 0, none⟩), .pointer none, .bool true, .int .i64 0] ?_ | fail)
 rename_i b
 refine WX.call rfl (vopen_whole LOk.nil hd0) rfl ?_
 rintro _ _ ⟨w, u, h1, ho, rfl, rfl, hd1, hs1⟩
 simp only [ca, na]
 try refine runS ?_
 refine I.st ?_
 refine stN [.pointer (some ⟨cb, 0, none⟩), .pointer (some ⟨d, 0, none⟩), .pointer none, .bool true, .int .i64 0] [.pointer (some ⟨cb, 0, none⟩), .pointer (some ⟨d, 0, none⟩), .pointer (some ⟨w, 0, none⟩), .bool true, .int .i64 0] rfl rfl ?_
 try refine runS ?_
 exact D.fin1 [DlBk b cb d w true 0, DsBk cb (CS.new dc rg nd) (.slice none 0 0), VBk w d (lastN []) 0, h1] _ rfl rfl ⟨b, cb, d, w, h1, rfl, rfl, hd1⟩
theorem recW_size {e : Ent} (h : EntR e) : (recW e).size ≤ 1073741824 := by
 have hk := h.key; have hv := h.val
 show e.key.data.toList.length + e.val.data.toList.length ≤ 1073741824
 rw [show e.key.data.toList.length = e.key.size from Array.length_toList, show e.val.data.toList.length = e.val.size from Array.length_toList]
 omega
section
variable {l : List Lf} (ok : LOk l) (b cb : Nat) {d w : Nat} {torn tn T : Int} {hd : Hp} (hdk : RD l d hd T) (hT0 : 0 ≤ T) (hT : T ≤ 137438953472)
include ok hdk hT0 hT
theorem dlwrite_ct {r : Rec} (hz : r.size ≤ 1073741824) :
  Ct prog 102 [.pointer (some ⟨b, 0, none⟩), .agg (List.toArray r.enc)] [DlBk b cb d w true tn, VBk w d (lastN l) torn, hd]
   (fun v H' => v = .tuple #[] ∧ ∃ hd', H' = [DlBk b cb d w true tn, VBk w d (lastN (ladd1 l r).1) torn, hd'] ∧ RD (ladd1 l r).1 d hd' (T + 243)) := by
 refine Ct.mk' func102 rfl rfl rfl (fun g R => ?_)
 try simp only [ca]
 simp only [na]
 repeat' (first | refine runS ?_ | refine bx rfl (fun _ => ?_) | fail)
 rename_i b1
 refine W.mixN 8 [true, true, true, true, true, true, false, false, false] [DlBk b cb d w true tn, RcBk b1 r] Tryz.mix (by kernel_rfl) ?_
 repeat' (first | refine runS ?_ | refine lAN (t := 108) r.enc r.enc rfl ?_ | fail)
 refine I.bs ?_
 refine WX.lit (ys := [r]) rfl rfl rfl rfl rfl rfl (by decide) rfl (fun v2 h2 hs2 => ?_)
 try refine runS ?_
 refine WX.nilH ?_
 refine WX.app rfl rfl (show IsSl 108 ([] : List Rec) (.slice none 0 0) [] from IsSl.nil _) hs2.rs rfl rfl (by decide) (by simp only [length_cons, length_nil]; omega) rfl (fun v3 h3 hs3 => ?_)
 rw [nil_append] at hs3
 try refine runS ?_
 have hadd := vadd_ct ok hdk hs3.rs (by simp) hT0 (by omega) (fun x hx => by rw [mem_singleton.1 hx]; exact hz) (w := w) (torn := torn)
 rw [ladd_1] at hadd
 refine WX.call rfl hadd rfl ?_
 rintro _ _ ⟨hd', rfl, rfl, hdk'⟩
 have hdk' : RD (ladd1 l r).1 d hd' (T + 243) := hdk'
 simp only [ca, na]
 try refine runS ?_
 exact D.finE [DlBk b cb d w true tn, VBk w d (lastN (ladd1 l r).1) torn, hd'] _ rfl ⟨rfl, hd', rfl, hdk'⟩
set_option maxRecDepth 10000 in
theorem dlgrown_ct {c : CS} (okc : CsOk c) {v : Value} {hv : Hp} (hs : Rs c.lg v hv) {was : Nat} (h1 : was ≤ c.lg.length) (h2 : c.lg.length ≤ was + 1) :
  Ct prog 105 [.pointer (some ⟨b, 0, none⟩), .int .i64 (was : Int)] [DlBk b cb d w true tn, DsBk cb c v, hv, VBk w d (lastN l) torn, hd]
   (fun r H' => r = .tuple #[] ∧ ∃ hd', H' = [DlBk b cb d w true tn, DsBk cb c v, hv, VBk w d (lastN (grownL l c (was : Int))) torn, hd'] ∧ RD (grownL l c (was : Int)) d hd' (T + 243)) := by
 have hll := okc.len
 have hlen : c.len = (c.lg.length : Int) := rfl
 obtain ⟨up, uc, rfl⟩ := hs.len
 refine Ct.mk' func105 rfl rfl rfl (fun g R => ?_)
 try simp only [ca]
 simp only [na]
 by_cases hw : was < c.lg.length
 ·obtain ⟨e, he⟩ : ∃ e, c.lg[was]? = some e := ⟨_, List.getElem?_eq_getElem hw⟩
  have hg : grownL l c (was : Int) = (ladd1 l (recW e)).1 := by
   unfold grownL
   rw [if_pos (by omega), show ((was : Int)).toNat = was from rfl, getD_eq_getElem?_getD, he]; rfl
  have heR : EntR e := okc.es _ (mem_of_getElem? he)
  have hwr := dlwrite_ct ok b cb hdk hT0 hT (w := w) (torn := torn) (tn := tn) (recW_size heR)
  rw [hg]
  obtain ⟨lz, hlz⟩ : ∃ lz, (ladd1 l (recW e)).1 = lz := ⟨_, rfl⟩
  rw [hlz] at hwr ⊢
  try refine runS ?_
  refine W.loop (α := Nat × List Lf × Hp) (fun x => (x.1 = was ∧ x.2.1 = l ∧ x.2.2 = hd) ∨ (x.1 = was + 1 ∧ x.2.1 = lz ∧ RD lz d x.2.2 (T + 243))) (fun x => [(0, .pointer (some ⟨b, 0, none⟩)), (4, .int .i64 (x.1 : Int))])
   (fun x => [DlBk b cb d w true tn, DsBk cb c (.slice up c.lg.length uc), hv, VBk w d (lastN x.2.1) torn, x.2.2, R]) (fun x => was + 1 - x.1) (was, l, hd) (.inl ⟨rfl, rfl, rfl⟩) (by repeat (first | exact Fsub.nil | refine Fsub.cons rfl ?_)) (Hsub.of_picks inferInstance) ?_
  rintro ⟨i, m, y⟩ (⟨rfl, rfl, rfl⟩ | ⟨rfl, rfl, hy⟩)
  ·simp only []
   repeat' (first | refine runS ?_ | refine WX.loadEW rfl hs he rfl rfl ?_ | refine bdN (t := 108) (recW e).enc ?_ | fail)
   refine WX.call rfl hwr rfl ?_
   rintro _ _ ⟨rfl, hd', rfl, hdk'⟩
   simp only [ca, na]
   try refine runS ?_
   exact D.rd (i + 1, lz, hd') (.inr ⟨rfl, rfl, hdk'⟩) (by simp only []; omega)
  ·have hwl : c.lg.length = was + 1 := by omega
   simp only []
   try refine runS ?_
   exact D.finE [DlBk b cb d w true tn, DsBk cb c (.slice up c.lg.length uc), hv, VBk w d (lastN m) torn, y] _ rfl ⟨rfl, y, rfl, hy⟩
 ·have hg : grownL l c (was : Int) = l := by unfold grownL; rw [if_neg (by omega)]
  rw [hg]
  try refine runS ?_
  refine W.loop (α := Unit) (fun _ => True) (fun _ => [(0, .pointer (some ⟨b, 0, none⟩)), (4, .int .i64 (was : Int))])
   (fun _ => [DlBk b cb d w true tn, DsBk cb c (.slice up c.lg.length uc), hv, VBk w d (lastN l) torn, hd, R]) (fun _ => 0) () trivial (by repeat (first | exact Fsub.nil | refine Fsub.cons rfl ?_)) (Hsub.of_picks inferInstance) ?_
  rintro - -
  try refine runS ?_
  exact D.finE [DlBk b cb d w true tn, DsBk cb c (.slice up c.lg.length uc), hv, VBk w d (lastN l) torn, hd] _ rfl ⟨rfl, hd, rfl, hdk.mono (by omega)⟩
end
end Go.Proofs.YtejfahjgfedliaaGreat

namespace Go.Proofs.YtejfahjgfedliaaGreat
open Go Go.Sl Go.Proofs.Tryz
section
variable {l : List Lf} (ok : LOk l) (b cb : Nat) {d w : Nat} {torn tn T : Int} {hd : Hp} (hdk : RD l d hd T) (hT0 : 0 ≤ T) (hT : T ≤ 137438953472) {c : CS} (okc : CsOk c) {v : Value} {hv : Hp} (hs : IsSl 43 c.lg v hv)
include ok hdk hT0 hT okc hs
theorem dlsync_ct : Ct prog 56 [.pointer (some ⟨b, 0, none⟩)] [DlBk b cb d w true tn, DsBk cb c v, hv, VBk w d (lastN l) torn, hd]
  (fun r H' => r = .tuple #[] ∧ DPost b cb d w torn tn c.sync (lsync l) (T + 243) H') := by
 have _ := hT0; have _ := hT; have hsy := vsync_ct ok hdk (w := w) (seg := lastN l) (torn := torn)
 have hcs := dcsync_ct okc cb hs
 rw [← lastN_sync l] at hsy
 refine Ct.mk' func56 rfl rfl rfl (fun g R => ?_)
 try simp only [ca]
 simp only [na]
 rw [← lastN_sync l]
 try refine runS ?_
 refine WX.call rfl hsy rfl ?_
 rintro _ _ ⟨hd', rfl, hdk'⟩
 simp only [ca, na]
 try refine runS ?_
 refine WX.call rfl hcs rfl ?_
 rintro _ _ ⟨rfl, v', hv', rfl, hs'⟩
 simp only [ca, na]
 try refine runS ?_
 exact D.finE [DlBk b cb d w true tn, DsBk cb c.sync v', hv', VBk w d (lastN (lsync l)) torn, hd'] _ rfl ⟨rfl, v', hv', hd', rfl, hs', hdk'.mono (by omega)⟩
def dtakeLS (l : List Lf) (c : CS) (fr ep ix : Int) (e : Ent) : Bool × CS × List Lf :=
 if roomB l 1 = true then ((c.dtake fr ep ix e).1, (c.dtake fr ep ix e).2, grownL l (c.dtake fr ep ix e).2 c.len) else (false, c, l)
theorem grew_len {c c' : CS} (h : Grew c c') : c.lg.length ≤ c'.lg.length ∧ c'.lg.length ≤ c.lg.length + 1 := by
 have _ := ok; have _ := hdk; have _ := hT0; have _ := hT; have _ := okc; have _ := hs; rcases h with rfl | ⟨e, _, _, rfl | rfl⟩
 ·omega
 ·show c.lg.length ≤ (c.lg ++ [e]).length ∧ _; simp [CS.push]
 ·rw [(settle_same (c.push e)).2.2.2.2.2.2.1]; show c.lg.length ≤ (c.lg ++ [e]).length ∧ _; simp [CS.push]
set_option maxRecDepth 10000 in
theorem dltake_ct (fr ep ix : Int) (e : Ent) : Ct prog 55 [.pointer (some ⟨b, 0, none⟩), .int .i64 fr, .int .i64 ep, .int .i64 ix, .agg (List.toArray e.enc)] [DlBk b cb d w true tn, DsBk cb c v, hv, VBk w d (lastN l) torn, hd]
  (fun r H' => r = .bool (dtakeLS l c fr ep ix e).1 ∧ DPost b cb d w torn tn (dtakeLS l c fr ep ix e).2.1 (dtakeLS l c fr ep ix e).2.2 (T + 243) H') := by
 have hroom := vroom_ct ok hdk (w := w) (seg := lastN l) (torn := torn) 1
 have hll := okc.len
 have hln : c.len = (c.lg.length : Int) := rfl
 obtain ⟨up, uc, rfl⟩ := hs.rs.len
 cases hrm : roomB l 1 with
 | false =>
  have e0 : dtakeLS l c fr ep ix e = (false, c, l) := if_neg (by rw [hrm]; decide)
  rw [e0]
  rw [hrm] at hroom
  refine Ct.mk' func55 rfl rfl rfl (fun g R => ?_)
  try simp only [ca]
  simp only [na]
  repeat' (first | refine runS ?_ | refine bx rfl (fun _ => ?_) | refine WX.callQ rfl hroom rfl ?_ | fail)
  exact D.fin1 [DlBk b cb d w true tn, DsBk cb c (.slice up c.lg.length uc), hv, VBk w d (lastN l) torn, hd] _ rfl rfl ⟨rfl, _, hv, hd, rfl, hs, hdk.mono (by omega)⟩
 | true =>
  have e0 : dtakeLS l c fr ep ix e = ((c.dtake fr ep ix e).1, (c.dtake fr ep ix e).2, grownL l (c.dtake fr ep ix e).2 c.len) := if_pos hrm
  rw [e0, hln]
  rw [hrm] at hroom
  have htk := dctake_ct okc cb hs fr ep ix e
  have hgw := Grew.dtake c fr ep ix e
  generalize c.dtake fr ep ix e = t at htk hgw ⊢
  have okt := hgw.ok okc
  obtain ⟨g1, g2⟩ := grew_len ok hdk hT0 hT okc hs hgw
  refine Ct.mk' func55 rfl rfl rfl (fun g R => ?_)
  try simp only [ca]
  simp only [na]
  repeat' (first | refine runS ?_ | refine bx rfl (fun _ => ?_) | refine WX.callQ rfl hroom rfl ?_ | fail)
  rename_i b9
  refine W.mixN 8 [true, true, true, true, true, true, true, true, false] [DlBk b cb d w true tn, EnBk b9 e] Tryz.mix (by kernel_rfl) ?_
  repeat' (first | refine runS ?_ | refine lAN (t := 43) e.enc e.enc rfl ?_ | fail)
  refine WX.call rfl htk rfl ?_
  rintro _ _ ⟨rfl, v', hv', rfl, hs'⟩
  have hgr := dlgrown_ct ok b cb hdk hT0 hT okt hs'.rs (w := w) (torn := torn) (tn := tn) g1 g2
  simp only [ca, na]
  try refine runS ?_
  refine WX.call rfl hgr rfl ?_
  rintro _ _ ⟨rfl, hd', rfl, hdk'⟩
  simp only [ca, na]
  try refine runS ?_
  exact D.fin1 [DlBk b cb d w true tn, DsBk cb t.2 v', hv', VBk w d (lastN (grownL l t.2 (c.lg.length : Int))) torn, hd'] _ rfl rfl ⟨rfl, v', hv', hd', rfl, hs', hdk'⟩
def dinjLS (l : List Lf) (c : CS) (e : Ent) : Int × CS × List Lf :=
 if roomB l 1 = true then ((c.dinject e).1, (c.dinject e).2, grownL l (c.dinject e).2 c.len) else (51, c, l)
set_option maxRecDepth 10000 in
theorem dlinj_ct (e : Ent) : Ct prog 53 [.pointer (some ⟨b, 0, none⟩), .agg (List.toArray e.enc)] [DlBk b cb d w true tn, DsBk cb c v, hv, VBk w d (lastN l) torn, hd]
  (fun r H' => r = .int .i64 (dinjLS l c e).1 ∧ DPost b cb d w torn tn (dinjLS l c e).2.1 (dinjLS l c e).2.2 (T + 243) H') := by
 have hroom := vroom_ct ok hdk (w := w) (seg := lastN l) (torn := torn) 1
 have hll := okc.len
 have hln : c.len = (c.lg.length : Int) := rfl
 obtain ⟨up, uc, rfl⟩ := hs.rs.len
 cases hrm : roomB l 1 with
 | false =>
  have e0 : dinjLS l c e = (51, c, l) := if_neg (by rw [hrm]; decide)
  rw [e0]
  rw [hrm] at hroom
  refine Ct.mk' func53 rfl rfl rfl (fun g R => ?_)
  try simp only [ca]
  simp only [na]
  repeat' (first | refine runS ?_ | refine bx rfl (fun _ => ?_) | refine WX.callQ rfl hroom rfl ?_ | fail)
  exact D.fin1 [DlBk b cb d w true tn, DsBk cb c (.slice up c.lg.length uc), hv, VBk w d (lastN l) torn, hd] _ rfl rfl ⟨rfl, _, hv, hd, rfl, hs, hdk.mono (by omega)⟩
 | true =>
  have e0 : dinjLS l c e = ((c.dinject e).1, (c.dinject e).2, grownL l (c.dinject e).2 c.len) := if_pos hrm
  rw [e0, hln]
  rw [hrm] at hroom
  have htk := dcinject_ct okc cb hs e
  have hgw := Grew.dinject c e
  generalize c.dinject e = t at htk hgw ⊢
  have okt := hgw.ok okc
  obtain ⟨g1, g2⟩ := grew_len ok hdk hT0 hT okc hs hgw
  refine Ct.mk' func53 rfl rfl rfl (fun g R => ?_)
  try simp only [ca]
  simp only [na]
  repeat' (first | refine runS ?_ | refine bx rfl (fun _ => ?_) | refine WX.callQ rfl hroom rfl ?_ | fail)
  rename_i b9
  refine W.mixN 8 [true, true, true, true, true, false] [DlBk b cb d w true tn, EnBk b9 e] Tryz.mix (by kernel_rfl) ?_
  repeat' (first | refine runS ?_ | refine lAN (t := 43) e.enc e.enc rfl ?_ | fail)
  refine WX.call rfl htk rfl ?_
  rintro _ _ ⟨rfl, v', hv', rfl, hs'⟩
  have hgr := dlgrown_ct ok b cb hdk hT0 hT okt hs'.rs (w := w) (torn := torn) (tn := tn) g1 g2
  simp only [ca, na]
  try refine runS ?_
  refine WX.call rfl hgr rfl ?_
  rintro _ _ ⟨rfl, hd', rfl, hdk'⟩
  simp only [ca, na]
  try refine runS ?_
  exact D.fin1 [DlBk b cb d w true tn, DsBk cb t.2 v', hv', VBk w d (lastN (grownL l t.2 (c.lg.length : Int))) torn, hd'] _ rfl rfl ⟨rfl, v', hv', hd', rfl, hs', hdk'⟩
def dputLS (l : List Lf) (c : CS) (key val : ByteArray) (dead : Bool) (deps : V9) (clock cl op : Int) : (Int × Int) × CS × List Lf :=
 if roomB l 1 = true then ((c.dput key val dead deps clock cl op).1, (c.dput key val dead deps clock cl op).2, grownL l (c.dput key val dead deps clock cl op).2 c.len) else ((0, 51), c, l)
set_option maxRecDepth 10000 in
theorem dlput_ct (key val : ByteArray) (dead : Bool) (deps : V9) (clock cl op : Int) : Ct prog 51 [.pointer (some ⟨b, 0, none⟩), .string key, .string val, .bool dead, .agg (List.toArray deps.enc), .int .i64 clock, .int .i64 cl, .int .i64 op] [DlBk b cb d w true tn, DsBk cb c v, hv, VBk w d (lastN l) torn, hd]
  (fun r H' => r = .tuple #[.int .i64 (dputLS l c key val dead deps clock cl op).1.1, .int .i64 (dputLS l c key val dead deps clock cl op).1.2] ∧ DPost b cb d w torn tn (dputLS l c key val dead deps clock cl op).2.1 (dputLS l c key val dead deps clock cl op).2.2 (T + 243) H') := by
 have hroom := vroom_ct ok hdk (w := w) (seg := lastN l) (torn := torn) 1
 have hll := okc.len
 have hln : c.len = (c.lg.length : Int) := rfl
 obtain ⟨up, uc, rfl⟩ := hs.rs.len
 cases hrm : roomB l 1 with
 | false =>
  have e0 : dputLS l c key val dead deps clock cl op = ((0, 51), c, l) := if_neg (by rw [hrm]; decide)
  rw [e0]
  rw [hrm] at hroom
  refine Ct.mk' func51 rfl rfl rfl (fun g R => ?_)
  try simp only [ca]
  simp only [na]
  repeat' (first | refine runS ?_ | refine bx rfl (fun _ => ?_) | refine WX.callQ rfl hroom rfl ?_ | fail)
  exact D.fin2 [DlBk b cb d w true tn, DsBk cb c (.slice up c.lg.length uc), hv, VBk w d (lastN l) torn, hd] _ rfl rfl rfl ⟨rfl, _, hv, hd, rfl, hs, hdk.mono (by omega)⟩
 | true =>
  have e0 : dputLS l c key val dead deps clock cl op = ((c.dput key val dead deps clock cl op).1, (c.dput key val dead deps clock cl op).2, grownL l (c.dput key val dead deps clock cl op).2 c.len) := if_pos hrm
  rw [e0, hln]
  rw [hrm] at hroom
  have htk := dcput_ct okc cb hs key val dead deps clock cl op
  have hgw := Grew.dput c key val dead deps clock cl op
  generalize c.dput key val dead deps clock cl op = t at htk hgw ⊢
  have okt := hgw.ok okc
  obtain ⟨g1, g2⟩ := grew_len ok hdk hT0 hT okc hs hgw
  refine Ct.mk' func51 rfl rfl rfl (fun g R => ?_)
  try simp only [ca]
  simp only [na]
  repeat' (first | refine runS ?_ | refine bx rfl (fun _ => ?_) | refine WX.callQ rfl hroom rfl ?_ | fail)
  rename_i b9
  refine W.mixN 8 [true, true, true, true, true, true, true, true, true, true, true, false, true, true, true, true, true] [DlBk b cb d w true tn, VcBk b9 deps] Tryz.mix (by kernel_rfl) ?_
  repeat' (first | refine runS ?_ | refine lAN (t := 37) deps.enc deps.enc rfl ?_ | fail)
  refine WX.call rfl htk rfl ?_
  rintro _ _ ⟨rfl, v', hv', rfl, hs'⟩
  have hgr := dlgrown_ct ok b cb hdk hT0 hT okt hs'.rs (w := w) (torn := torn) (tn := tn) g1 g2
  simp only [ca, na]
  try refine runS ?_
  refine WX.call rfl hgr rfl ?_
  rintro _ _ ⟨rfl, hd', rfl, hdk'⟩
  simp only [ca, na]
  try refine runS ?_
  exact D.fin2 [DlBk b cb d w true tn, DsBk cb t.2 v', hv', VBk w d (lastN (grownL l t.2 (c.lg.length : Int))) torn, hd'] _ rfl rfl rfl ⟨rfl, v', hv', hd', rfl, hs', hdk'⟩
end
def dentLS (l : List Lf) (c : CS) (x : Cfg) : (Bool × Int) × CS × List Lf :=
 if roomB l 2 = true then
  (if (c.enter x).1.2 = 0 then ((c.enter x).1, (c.enter x).2, lsync (ladd1 (if (c.enter x).1.1 = true then (lcut l).1 else l) (recN x (c.enter x).2.bs)).1) else ((false, (c.enter x).1.2), (c.enter x).2, l))
 else ((false, 51), c, l)
theorem dentLS_2 (l : List Lf) (c : CS) (x : Cfg) : (dentLS l c x).2 = (entLS l c x).2 := by
 unfold dentLS entLS
 repeat' split
 all_goals rfl
theorem recN_size (x : Cfg) (b : Int) : (recN x b).size ≤ 1073741824 := by show (0 : Nat) ≤ 1073741824; omega
set_option maxRecDepth 10000 in
set_option maxHeartbeats 1000000 in
theorem dlenter_ct {l : List Lf} (ok : LOk l) (b cb : Nat) {d w : Nat} {torn tn T : Int} {hd : Hp} (hdk : RD l d hd T) (hT0 : 0 ≤ T) (hT : T ≤ 68719476736) {c : CS} (okc : CsOk c) {v : Value} {hv : Hp} (hs : IsSl 43 c.lg v hv) (x : Cfg) :
  Ct prog 50 [.pointer (some ⟨b, 0, none⟩), .agg (List.toArray x.enc)] [DlBk b cb d w true tn, DsBk cb c v, hv, VBk w d (lastN l) torn, hd]
   (fun r H' => r = .tuple #[.bool (dentLS l c x).1.1, .int .i64 (dentLS l c x).1.2] ∧ DPost b cb d w torn tn (dentLS l c x).2.1 (dentLS l c x).2.2 (T + 486) H') := by
 have hrm := vroom_ct ok hdk (w := w) (seg := lastN l) (torn := torn) 2
 cases hr : roomB l 2 with
 | false =>
  have e0 : dentLS l c x = ((false, 51), c, l) := if_neg (by rw [hr]; decide)
  rw [e0]
  rw [hr] at hrm
  refine Ct.mk' func50 rfl rfl rfl (fun g R => ?_)
  try simp only [ca]
  simp only [na]
  repeat' (first | refine runS ?_ | refine bx rfl (fun _ => ?_) | refine WX.callQ rfl hrm rfl ?_ | fail)
  exact D.fin2 [DlBk b cb d w true tn, DsBk cb c v, hv, VBk w d (lastN l) torn, hd] _ rfl rfl rfl ⟨rfl, v, hv, hd, rfl, hs, hdk.mono (by omega)⟩
 | true =>
  rw [hr] at hrm
  have htk := dcenter_ct okc cb hs x
  have okt := okc.enter x
  have e0 : dentLS l c x = (if (c.enter x).1.2 = 0 then ((c.enter x).1, (c.enter x).2, lsync (ladd1 (if (c.enter x).1.1 = true then (lcut l).1 else l) (recN x (c.enter x).2.bs)).1) else ((false, (c.enter x).1.2), (c.enter x).2, l)) := if_pos hr
  rw [e0]
  clear e0
  generalize c.enter x = t at htk okt ⊢
  obtain ⟨⟨rst, er⟩, c'⟩ := t
  simp only [] at htk okt ⊢
  by_cases he : er = 0
  ·subst he
   rw [if_pos rfl]
   cases rst with
   | true =>
    rw [if_pos rfl]
    have hcut := vcut_ct ok hdk (by omega) (w := w) (torn := torn)
    have okk := ok.cut
    refine Ct.mk' func50 rfl rfl rfl (fun g R => ?_)
    try simp only [ca]
    simp only [na]
    repeat' (first | refine runS ?_ | refine bx rfl (fun _ => ?_) | refine WX.callQ rfl hrm rfl ?_ | fail)
    rename_i b3
    refine W.mixN 8 [true, true, true, true, true, false, true, true, true, true, true] [DlBk b cb d w true tn, CfBk b3 x] Tryz.mix (by kernel_rfl) ?_
    repeat' (first | refine runS ?_ | refine lAN (t := 34) x.enc x.enc rfl ?_ | fail)
    refine WX.call rfl htk rfl ?_
    rintro _ _ ⟨rfl, v', hv', rfl, hs'⟩
    simp only [ca, na]
    try refine runS ?_
    refine WX.call rfl hcut rfl ?_
    rintro _ _ ⟨hd0, rfl, rfl, hdk0⟩
    simp only [ca, na]
    try refine runS ?_
    refine W.mixN 8 [true, true, true, true, true, true, true, true, true, true, false] [DlBk b cb d w true tn, CfBk b3 x, DsBk cb c' v'] Tryz.mix (by kernel_rfl) ?_
    repeat' (first | refine runS ?_ | refine lAN (t := 34) x.enc x.enc rfl ?_ | refine bdN (t := 108) (recN x c'.bs).enc ?_ | fail)
    have hadd := dlwrite_ct okk b cb hdk0 (by omega) (by omega) (recN_size x c'.bs) (w := w) (torn := torn) (tn := tn)
    refine WX.call rfl hadd rfl ?_
    rintro _ _ ⟨rfl, hd1, rfl, hdk1⟩
    have hsy := vsync_ct (LOk.add1 okk (recN x c'.bs)) hdk1 (w := w) (seg := lastN (ladd1 (lcut l).1 (recN x c'.bs)).1) (torn := torn)
    simp only [ca, na]
    try refine runS ?_
    refine WX.call rfl hsy rfl ?_
    rintro _ _ ⟨hd2, rfl, hdk2⟩
    simp only [ca, na]
    try refine runS ?_
    exact D.fin2 [DlBk b cb d w true tn, DsBk cb c' v', hv', VBk w d (lastN (ladd1 (lcut l).1 (recN x c'.bs)).1) torn, hd2] _ rfl rfl rfl ⟨rfl, v', hv', hd2, by rw [lastN_sync], hs', hdk2.mono (by omega)⟩
   | false =>
    rw [if_neg (by decide)]
    refine Ct.mk' func50 rfl rfl rfl (fun g R => ?_)
    try simp only [ca]
    simp only [na]
    repeat' (first | refine runS ?_ | refine bx rfl (fun _ => ?_) | refine WX.callQ rfl hrm rfl ?_ | fail)
    rename_i b3
    refine W.mixN 8 [true, true, true, true, true, false, true, true, true, true, true] [DlBk b cb d w true tn, CfBk b3 x] Tryz.mix (by kernel_rfl) ?_
    repeat' (first | refine runS ?_ | refine lAN (t := 34) x.enc x.enc rfl ?_ | fail)
    refine WX.call rfl htk rfl ?_
    rintro _ _ ⟨rfl, v', hv', rfl, hs'⟩
    have hdk0 := hdk.mono (show T ≤ T + 243 by omega)
    simp only [ca, na]
    try refine runS ?_
    skip
    refine W.mixN 8 [true, true, true, true, true, true, true, true, true, true, false] [DlBk b cb d w true tn, CfBk b3 x, DsBk cb c' v'] Tryz.mix (by kernel_rfl) ?_
    repeat' (first | refine runS ?_ | refine lAN (t := 34) x.enc x.enc rfl ?_ | refine bdN (t := 108) (recN x c'.bs).enc ?_ | fail)
    have hadd := dlwrite_ct ok b cb hdk0 (by omega) (by omega) (recN_size x c'.bs) (w := w) (torn := torn) (tn := tn)
    refine WX.call rfl hadd rfl ?_
    rintro _ _ ⟨rfl, hd1, rfl, hdk1⟩
    have hsy := vsync_ct (LOk.add1 ok (recN x c'.bs)) hdk1 (w := w) (seg := lastN (ladd1 l (recN x c'.bs)).1) (torn := torn)
    simp only [ca, na]
    try refine runS ?_
    refine WX.call rfl hsy rfl ?_
    rintro _ _ ⟨hd2, rfl, hdk2⟩
    simp only [ca, na]
    try refine runS ?_
    exact D.fin2 [DlBk b cb d w true tn, DsBk cb c' v', hv', VBk w d (lastN (ladd1 l (recN x c'.bs)).1) torn, hd2] _ rfl rfl rfl ⟨rfl, v', hv', hd2, by rw [lastN_sync], hs', hdk2.mono (by omega)⟩
  ·rw [if_neg he]
   refine Ct.mk' func50 rfl rfl rfl (fun g R => ?_)
   try simp only [ca]
   simp only [na]
   repeat' (first | refine runS ?_ | refine bx rfl (fun _ => ?_) | refine WX.callQ rfl hrm rfl ?_ | fail)
   rename_i b3
   refine W.mixN 8 [true, true, true, true, true, false, true, true, true, true, true] [DlBk b cb d w true tn, CfBk b3 x] Tryz.mix (by kernel_rfl) ?_
   repeat' (first | refine runS ?_ | refine lAN (t := 34) x.enc x.enc rfl ?_ | fail)
   refine WX.call rfl htk rfl ?_
   rintro _ _ ⟨rfl, v', hv', rfl, hs'⟩
   simp only [ca, na]
   try refine runS ?_
   exact D.fin2 [DlBk b cb d w true tn, DsBk cb c' v', hv', VBk w d (lastN l) torn, hd] _ rfl rfl rfl ⟨rfl, v', hv', hd, rfl, hs', hdk.mono (by omega)⟩
set_option maxRecDepth 10000 in
theorem dlcrash_ct {l : List Lf} (ok : LOk l) (b cb : Nat) {d w : Nat} {seg torn tn T : Int} {hd : Hp} (hdk : RD l d hd T) (hT : T ≤ 137438953472) (c : CS) (v : Value) {keep : Int} (hk1 : -9223372036854775808 ≤ keep) (hk2 : keep ≤ 9223372036854775807) :
  Ct prog 59 [.pointer (some ⟨b, 0, none⟩), .int .i64 keep] [DlBk b cb d w true tn, DsBk cb c v, VBk w d seg torn, hd]
   (fun r H' => r = .tuple #[] ∧ ∃ cb' hd', H' = [DlBk b cb' d w false tn, DsBk cb' (CS.new c.dc c.rg c.nd) (.slice none 0 0), VBk w d seg torn, hd'] ∧ ∃ t, 0 ≤ t ∧ t ≤ T ∧ IsRk (((crashL l keep.toNat).map fq).map RfQ.pl) t d hd') := by
 obtain ⟨qs, t, lr, ht, hyq⟩ := hdk
 have qok := lr.q ok.toLUp
 have hcr := rcrash_ct qok lr.t0 (by omega) (fun x hx => (lr.pos x hx).2) hyq hk1 hk2
 have ht0 := lr.t0
 refine Ct.mk' func59 rfl rfl rfl (fun g R => ?_)
 try simp only [ca]
 simp only [na]
 try refine runS ?_
 refine WX.call rfl hcr rfl ?_
 rintro _ _ ⟨last, y2, rfl, rfl, hy2, hla⟩
 rw [crash_eq (k := keep.toNat) lr.m lr.inc (last_cnt hla lr.inc lr.pos)] at hy2
 simp only [ca, na]
 try refine runS ?_
 refine I.st ?_
 refine stN [.pointer (some ⟨cb, 0, none⟩), .pointer (some ⟨d, 0, none⟩), .pointer (some ⟨w, 0, none⟩), .bool true, .int .i64 tn] [.pointer (some ⟨cb, 0, none⟩), .pointer (some ⟨d, 0, none⟩), .pointer (some ⟨w, 0, none⟩), .bool false, .int .i64 tn] rfl rfl ?_
 try refine runS ?_
 refine W.hp (H' := [y2, DlBk b cb d w false tn, DsBk cb c v, VBk w d seg torn, R]) rfl ?_
 refine W.mixN 8 (List.replicate 22 true ++ [false]) [DlBk b cb d w false tn, DsBk cb c v] Tryz.mix (by kernel_rfl) ?_
 try refine runS ?_
 refine WX.call rfl (dcnew_ct c.dc c.rg c.nd) rfl ?_
 rintro _ _ ⟨cb', rfl, rfl⟩
 simp only [ca, na]
 try refine runS ?_
 refine I.st ?_
 refine stN [.pointer (some ⟨cb, 0, none⟩), .pointer (some ⟨d, 0, none⟩), .pointer (some ⟨w, 0, none⟩), .bool false, .int .i64 tn] [.pointer (some ⟨cb', 0, none⟩), .pointer (some ⟨d, 0, none⟩), .pointer (some ⟨w, 0, none⟩), .bool false, .int .i64 tn] rfl rfl ?_
 try refine runS ?_
 exact D.finE [DlBk b cb' d w false tn, DsBk cb' (CS.new c.dc c.rg c.nd) (.slice none 0 0), VBk w d seg torn, y2] _ rfl ⟨rfl, cb', y2, rfl, t, ht0, ht, hy2⟩
theorem dlcrashD_ct (b cb d w : Nat) (tn : Int) (keep : Int) :
  Ct prog 59 [.pointer (some ⟨b, 0, none⟩), .int .i64 keep] [DlBk b cb d w false tn] (fun r H' => r = .tuple #[] ∧ H' = [DlBk b cb d w false tn]) := by
 refine Ct.mk' func59 rfl rfl rfl (fun g R => ?_)
 try simp only [ca]
 simp only [na]
 try refine runS ?_
 exact D.fin0 [DlBk b cb d w false tn] _ rfl ⟨rfl, rfl⟩
theorem dlenterD_ct (b cb d w : Nat) (tn : Int) (x : Cfg) :
  Ct prog 50 [.pointer (some ⟨b, 0, none⟩), .agg (List.toArray x.enc)] [DlBk b cb d w false tn] (fun r H' => r = .tuple #[.bool false, .int .i64 52] ∧ H' = [DlBk b cb d w false tn]) := by
 refine Ct.mk' func50 rfl rfl rfl (fun g R => ?_)
 try simp only [ca]
 simp only [na]
 repeat' (first | refine runS ?_ | refine bx rfl (fun _ => ?_) | fail)
 exact D.fin2 [DlBk b cb d w false tn] _ rfl rfl rfl ⟨rfl, rfl⟩
theorem dlputD_ct (b cb d w : Nat) (tn : Int) (key val : ByteArray) (dead : Bool) (deps : V9) (clock cl op : Int) :
  Ct prog 51 [.pointer (some ⟨b, 0, none⟩), .string key, .string val, .bool dead, .agg (List.toArray deps.enc), .int .i64 clock, .int .i64 cl, .int .i64 op] [DlBk b cb d w false tn] (fun r H' => r = .tuple #[.int .i64 0, .int .i64 52] ∧ H' = [DlBk b cb d w false tn]) := by
 refine Ct.mk' func51 rfl rfl rfl (fun g R => ?_)
 try simp only [ca]
 simp only [na]
 repeat' (first | refine runS ?_ | refine bx rfl (fun _ => ?_) | fail)
 exact D.fin2 [DlBk b cb d w false tn] _ rfl rfl rfl ⟨rfl, rfl⟩
theorem dlinjD_ct (b cb d w : Nat) (tn : Int) (e : Ent) :
  Ct prog 53 [.pointer (some ⟨b, 0, none⟩), .agg (List.toArray e.enc)] [DlBk b cb d w false tn] (fun r H' => r = .int .i64 52 ∧ H' = [DlBk b cb d w false tn]) := by
 refine Ct.mk' func53 rfl rfl rfl (fun g R => ?_)
 try simp only [ca]
 simp only [na]
 repeat' (first | refine runS ?_ | refine bx rfl (fun _ => ?_) | fail)
 exact D.fin1 [DlBk b cb d w false tn] _ rfl rfl ⟨rfl, rfl⟩
theorem dltakeD_ct (b cb d w : Nat) (tn : Int) (fr ep ix : Int) (e : Ent) :
  Ct prog 55 [.pointer (some ⟨b, 0, none⟩), .int .i64 fr, .int .i64 ep, .int .i64 ix, .agg (List.toArray e.enc)] [DlBk b cb d w false tn] (fun r H' => r = .bool false ∧ H' = [DlBk b cb d w false tn]) := by
 refine Ct.mk' func55 rfl rfl rfl (fun g R => ?_)
 try simp only [ca]
 simp only [na]
 repeat' (first | refine runS ?_ | refine bx rfl (fun _ => ?_) | fail)
 exact D.fin1 [DlBk b cb d w false tn] _ rfl rfl ⟨rfl, rfl⟩
theorem dlsyncD_ct (b cb d w : Nat) (tn : Int) :
  Ct prog 56 [.pointer (some ⟨b, 0, none⟩)] [DlBk b cb d w false tn] (fun r H' => r = .tuple #[] ∧ H' = [DlBk b cb d w false tn]) := by
 refine Ct.mk' func56 rfl rfl rfl (fun g R => ?_)
 try simp only [ca]
 simp only [na]
 try refine runS ?_
 exact D.finE [DlBk b cb d w false tn] _ rfl ⟨rfl, rfl⟩
theorem dlstartU_ct (b cb d w : Nat) (tn : Int) :
  Ct prog 60 [.pointer (some ⟨b, 0, none⟩)] [DlBk b cb d w true tn] (fun r H' => r = .tuple #[] ∧ H' = [DlBk b cb d w true tn]) := by
 refine Ct.mk' func60 rfl rfl rfl (fun g R => ?_)
 try simp only [ca]
 simp only [na]
 try refine runS ?_
 exact D.fin0 [DlBk b cb d w true tn] _ rfl ⟨rfl, rfl⟩
end Go.Proofs.YtejfahjgfedliaaGreat

namespace Go.Proofs.YtejfahjgfedliaaGreat
open Go Go.Sl Go.Proofs.Tryz List
set_option maxRecDepth 10000 in
set_option maxHeartbeats 1000000 in
theorem dlstartD_ct (b cb : Nat) (c : CS) {d w : Nat} {tn : Int} {hd : Hp} {l : List Lf} {rs : List Rec} {seg torn T : Int}
  (hop : Ct prog 49 [.pointer (some ⟨d, 0, none⟩)] [hd] (fun res H' => ∃ w' u h' ho, res = .tuple #[.pointer (some ⟨w', 0, none⟩), u] ∧ H' = [VBk w' d seg torn, h', ho] ∧ RD l d h' T ∧ IsSl 108 rs u ho))
  (hl : rs.length ≤ 1000000) (hrs : ∀ r ∈ rs, r.k = 1 ∧ EntR r.e ∨ r.k = 2 ∧ RightC r.c) :
  Ct prog 60 [.pointer (some ⟨b, 0, none⟩)] [DlBk b cb d w false tn, DsBk cb (CS.new c.dc c.rg c.nd) (.slice none 0 0), hd]
   (fun r H' => r = .tuple #[] ∧ ∃ cb' w' hd' tn', ∃ v hv, H' = [DlBk b cb' d w' true tn', DsBk cb' (CS.restore c.dc c.rg c.nd (rbF c.nd rs).x (rbF c.nd rs).sn (rbF c.nd rs).bs (rbF c.nd rs).es) v, hv, VBk w' d seg torn, hd'] ∧
    IsSl 43 (CS.restore c.dc c.rg c.nd (rbF c.nd rs).x (rbF c.nd rs).sn (rbF c.nd rs).bs (rbF c.nd rs).es).lg v hv ∧ RD l d hd' T) := by
 refine Ct.mk' func60 rfl rfl rfl (fun g R => ?_)
 try simp only [ca]
 simp only [na]
 try refine runS ?_
 refine I.st ?_
 refine stN [.pointer (some ⟨cb, 0, none⟩), .pointer (some ⟨d, 0, none⟩), .pointer (some ⟨w, 0, none⟩), .bool false, .int .i64 tn] [.pointer (some ⟨cb, 0, none⟩), .pointer (some ⟨d, 0, none⟩), .pointer (some ⟨w, 0, none⟩), .bool true, .int .i64 tn] rfl rfl ?_
 try refine runS ?_
 refine WX.call rfl hop rfl ?_
 rintro _ _ ⟨w', u, h', ho, rfl, rfl, hdk, hsr⟩
 have hrr := hsr.rs
 obtain ⟨up, uc, rfl⟩ := hrr.len
 simp only [ca, na]
 try refine runS ?_
 refine I.st ?_
 refine stN [.pointer (some ⟨cb, 0, none⟩), .pointer (some ⟨d, 0, none⟩), .pointer (some ⟨w, 0, none⟩), .bool true, .int .i64 tn] [.pointer (some ⟨cb, 0, none⟩), .pointer (some ⟨d, 0, none⟩), .pointer (some ⟨w', 0, none⟩), .bool true, .int .i64 tn] rfl rfl ?_
 try refine runS ?_
 refine I.st ?_
 refine stN [.pointer (some ⟨cb, 0, none⟩), .pointer (some ⟨d, 0, none⟩), .pointer (some ⟨w', 0, none⟩), .bool true, .int .i64 tn] [.pointer (some ⟨cb, 0, none⟩), .pointer (some ⟨d, 0, none⟩), .pointer (some ⟨w', 0, none⟩), .bool true, .int .i64 torn] rfl rfl ?_
 repeat' (first | refine runS ?_ | refine al (fun _ => ?_) | fail)
 rename_i b4
 refine W.nilH ?_
 refine W.hp (H' := [[], CfBk b4 Rb.z.x, VBk w' d seg torn, h', ho, DlBk b cb d w' true torn, DsBk cb (CS.new c.dc c.rg c.nd) (.slice none 0 0), R]) rfl ?_
 refine W.sub (L' := [(0, .pointer (some ⟨b, 0, none⟩)), (3, .slice up rs.length uc), (4, .pointer (some ⟨b4, 0, none⟩)), (5, .slice none 0 0), (6, .int .i64 Rb.z.sn), (7, .int .i64 Rb.z.bs), (8, .int .i64 ((0 : Nat) : Int))])
  (H' := [[], CfBk b4 Rb.z.x, VBk w' d seg torn, h', ho, DlBk b cb d w' true torn, DsBk cb (CS.new c.dc c.rg c.nd) (.slice none 0 0), R]) (by repeat (first | exact Fsub.nil | refine Fsub.cons rfl ?_)) (Hsub.of_picks inferInstance) ?_
 obtain ⟨f0, hf0⟩ : ∃ f, f = Rb.z := ⟨_, rfl⟩
 rw [← hf0]
 refine W.loop (α := Nat × Rb × Value × Hp) (fun x => x.1 ≤ rs.length ∧ IsSl 43 x.2.1.es x.2.2.1 x.2.2.2 ∧ x.2.1.es.length ≤ x.1 ∧ x.2.1 = rbK c.nd rs x.1)
  (fun x => [(0, .pointer (some ⟨b, 0, none⟩)), (3, .slice up rs.length uc), (4, .pointer (some ⟨b4, 0, none⟩)), (5, x.2.2.1), (6, .int .i64 x.2.1.sn), (7, .int .i64 x.2.1.bs), (8, .int .i64 (x.1 : Int))])
  (fun x => [x.2.2.2, CfBk b4 x.2.1.x, VBk w' d seg torn, h', ho, DlBk b cb d w' true torn, DsBk cb (CS.new c.dc c.rg c.nd) (.slice none 0 0), R]) (fun x => rs.length - x.1) (0, f0, .slice none 0 0, []) ⟨Nat.zero_le _, by rw [hf0]; exact IsSl.nil _, by rw [hf0]; exact Nat.zero_le _, by rw [hf0]; rfl⟩ (by repeat (first | exact Fsub.nil | refine Fsub.cons rfl ?_)) (Hsub.of_picks inferInstance) ?_
 clear hf0
 rintro ⟨i, f, v, hlg⟩ ⟨hi, hsv, hel, hf⟩
 simp only [] at hi hsv hel hf ⊢
 have hr1 := hsv.rs
 by_cases hlt : i < rs.length
 ·obtain ⟨r, hr⟩ : ∃ r, rs[i]? = some r := ⟨_, List.getElem?_eq_getElem hlt⟩
  have hsu := rbK_succ (nd := c.nd) hr
  rw [← hf] at hsu
  rcases hrs r (mem_of_getElem? hr) with ⟨k1, hre⟩ | ⟨k2, hrc⟩
  ·have hst : rbStep c.nd f r = ⟨f.x, f.sn, f.bs, f.es ++ [r.e]⟩ := if_pos k1
   rw [hst] at hsu
   repeat' (first | refine runS ?_ | refine WX.loadEA rfl hrr hr rfl (us := r.e.enc) rfl rfl rfl ?_ | fail)
   rw [k1]
   skip
   refine I.bs ?_
   refine WX.lit (ys := [r.e]) rfl rfl rfl rfl rfl rfl (by decide) rfl (fun v2 h2 hs2 => ?_)
   skip
   refine WX.app rfl rfl hsv hs2.rs rfl rfl (by decide) (by simp only [length_cons, length_nil]; omega) rfl (fun v3 h3 hs3 => ?_)
   try refine runS ?_
   exact D.rd (i + 1, ⟨f.x, f.sn, f.bs, f.es ++ [r.e]⟩, v3, h3) ⟨by simp only []; omega, hs3, by simp only [length_append, length_cons, length_nil]; omega, hsu.symm⟩ (by simp only []; omega)
  ·have hst : rbStep c.nd f r = ⟨r.c, if 0 < sinceO (some (chOf r.c)) c.nd then sinceO (some (chOf r.c)) c.nd else f.sn, r.base, f.es⟩ := if_neg (by omega)
   rw [hst] at hsu
   obtain ⟨ch, hcx, okc, hch⟩ := rightC_ch hrc
   have hsi := dsince_ct (ChO.some okc) c.nd
   rw [show cfO (some ch) = r.c from hcx.symm] at hsi
   rw [hch] at hsu
   generalize sinceO (some ch) c.nd = z at hsi hsu
   try refine runS ?_
   rw [k2]
   repeat' (first | refine runS ?_ | refine WX.loadEA rfl hrr hr rfl (us := r.c.enc) rfl rfl rfl ?_ | refine sGW f.x.enc r.c.enc rfl rfl ?_ | fail)
   refine W.quiet Tryz.mix (by kernel_rfl) ?_
   by_cases hz : 0 < z
   ·rw [if_pos hz] at hsu
    repeat' (first | refine runS ?_ | refine lAN (t := 34) r.c.enc r.c.enc rfl ?_ | refine WX.callQ rfl hsi rfl ?_ | fail)
    exact D.rd (i + 1, ⟨r.c, z, r.base, f.es⟩, v, hlg) ⟨by simp only []; omega, hsv, by simp only []; omega, hsu.symm⟩ (by simp only []; omega)
   ·rw [if_neg hz] at hsu
    repeat' (first | refine runS ?_ | refine lAN (t := 34) r.c.enc r.c.enc rfl ?_ | refine WX.callQ rfl hsi rfl ?_ | fail)
    exact D.rd (i + 1, ⟨r.c, f.sn, r.base, f.es⟩, v, hlg) ⟨by simp only []; omega, hsv, by simp only []; omega, hsu.symm⟩ (by simp only []; omega)
 ·obtain rfl : i = rs.length := by omega
  have hff : f = rbF c.nd rs := by rw [hf]; unfold rbK; rw [take_length]
  have hre := dcrestore_ct c.dc c.rg c.nd f.x f.sn f.bs hsv.rs (by omega)
  try refine runS ?_
  refine W.mixN 8 (List.replicate 26 true ++ [false]) [DlBk b cb d w' true torn, CfBk b4 f.x, DsBk cb (CS.new c.dc c.rg c.nd) (.slice none 0 0)] Tryz.mix (by kernel_rfl) ?_
  repeat' (first | refine runS ?_ | refine lAN (t := 34) f.x.enc f.x.enc rfl ?_ | fail)
  refine WX.call rfl hre rfl ?_
  rintro _ _ ⟨cb', v9, hv9, rfl, rfl, hs9⟩
  simp only [ca, na]
  try refine runS ?_
  refine I.st ?_
  refine stN [.pointer (some ⟨cb, 0, none⟩), .pointer (some ⟨d, 0, none⟩), .pointer (some ⟨w', 0, none⟩), .bool true, .int .i64 torn] [.pointer (some ⟨cb', 0, none⟩), .pointer (some ⟨d, 0, none⟩), .pointer (some ⟨w', 0, none⟩), .bool true, .int .i64 torn] rfl rfl ?_
  try refine runS ?_
  rw [← hff]
  exact D.finE [DlBk b cb' d w' true torn, DsBk cb' (CS.restore c.dc c.rg c.nd f.x f.sn f.bs f.es) v9, hv9, VBk w' d seg torn, h'] _ rfl ⟨rfl, cb', w', h', torn, v9, hv9, rfl, hs9, hdk⟩
section
variable (b cb : Nat) (dc rg nd : Int) (d w : Nat)
theorem lsyncD_ct : Ct prog 27 [.pointer (some ⟨b, 0, none⟩)] [LgBk b cb dc rg nd d w false] (fun r H' => r = .tuple #[] ∧ H' = [LgBk b cb dc rg nd d w false]) := by
 refine Ct.mk' func27 rfl rfl rfl (fun g R => ?_)
 try simp only [ca]
 simp only [na]
 try refine runS ?_
 exact D.finE [LgBk b cb dc rg nd d w false] _ rfl ⟨rfl, rfl⟩
theorem ltakeD_ct (fr ep ix : Int) (e : Ent) : Ct prog 25 [.pointer (some ⟨b, 0, none⟩), .int .i64 fr, .int .i64 ep, .int .i64 ix, .agg (List.toArray e.enc)] [LgBk b cb dc rg nd d w false] (fun r H' => r = .bool false ∧ H' = [LgBk b cb dc rg nd d w false]) := by
 have hmay := lmayD_ct b cb dc rg nd d w
 refine Ct.mk' func25 rfl rfl rfl (fun g R => ?_)
 try simp only [ca]
 simp only [na]
 repeat' (first | refine runS ?_ | refine bx rfl (fun _ => ?_) | refine WX.callQ rfl hmay rfl ?_ | fail)
 exact D.fin1 [LgBk b cb dc rg nd d w false] _ rfl rfl ⟨rfl, rfl⟩
theorem linjD_ct (e : Ent) : Ct prog 52 [.pointer (some ⟨b, 0, none⟩), .agg (List.toArray e.enc)] [LgBk b cb dc rg nd d w false] (fun r H' => r = .int .i64 52 ∧ H' = [LgBk b cb dc rg nd d w false]) := by
 have hmay := lmayD_ct b cb dc rg nd d w
 refine Ct.mk' func52 rfl rfl rfl (fun g R => ?_)
 try simp only [ca]
 simp only [na]
 repeat' (first | refine runS ?_ | refine bx rfl (fun _ => ?_) | refine WX.callQ rfl hmay rfl ?_ | fail)
 exact D.fin1 [LgBk b cb dc rg nd d w false] _ rfl rfl ⟨rfl, rfl⟩
theorem lputD_ct (key val : ByteArray) (dead : Bool) (deps : V9) (clock cl op : Int) : Ct prog 26 [.pointer (some ⟨b, 0, none⟩), .string key, .string val, .bool dead, .agg (List.toArray deps.enc), .int .i64 clock, .int .i64 cl, .int .i64 op] [LgBk b cb dc rg nd d w false] (fun r H' => r = .tuple #[.int .i64 0, .int .i64 52] ∧ H' = [LgBk b cb dc rg nd d w false]) := by
 have hmay := lmayD_ct b cb dc rg nd d w
 refine Ct.mk' func26 rfl rfl rfl (fun g R => ?_)
 try simp only [ca]
 simp only [na]
 repeat' (first | refine runS ?_ | refine bx rfl (fun _ => ?_) | refine WX.callQ rfl hmay rfl ?_ | fail)
 exact D.fin2 [LgBk b cb dc rg nd d w false] _ rfl rfl rfl ⟨rfl, rfl⟩
theorem lentD_ct (x : Cfg) : Ct prog 39 [.pointer (some ⟨b, 0, none⟩), .agg (List.toArray x.enc)] [LgBk b cb dc rg nd d w false] (fun r H' => r = .tuple #[.bool false, .int .i64 52] ∧ H' = [LgBk b cb dc rg nd d w false]) := by
 refine Ct.mk' func39 rfl rfl rfl (fun g R => ?_)
 try simp only [ca]
 simp only [na]
 repeat' (first | refine runS ?_ | refine bx rfl (fun _ => ?_) | fail)
 exact D.fin2 [LgBk b cb dc rg nd d w false] _ rfl rfl rfl ⟨rfl, rfl⟩
end
theorem LPost.is {b cb : Nat} {dc rg nd : Int} {d w : Nat} {torn : Int} {c : CS} {l : List Lf} {H' : HH} (h : LPost b cb dc rg nd d w torn c l H') (hid : c.dc = dc ∧ c.rg = rg ∧ c.nd = nd) : ∃ H'', H''.flatten = H'.flatten ∧ ∃ h', H'' = [h'] ∧ IsLg (.up l c torn) b h' := by
 obtain ⟨v, hv, hd, rfl, hs, hk⟩ := h
 obtain ⟨rfl, rfl, rfl⟩ := hid
 exact ⟨[LgBk b cb c.dc c.rg c.nd d w true ++ (CsBk cb c v ++ (hv ++ (WBk w d (lastN l) torn ++ hd)))], by simp, _, rfl, cb, d, w, v, hv, lastN l, torn, hd, rfl, ⟨hs, hk, fun _ => rfl, fun l' c' t' e => (by cases e; rfl), fun e => (by cases e)⟩⟩
theorem IsLg.still {s : LSt} {b : Nat} {h : Hp} (hm : IsLg s b h) {f : FuncId} {args : List Value} {u : Value}
  (k : ∀ cb d w, Ct prog f args [LgBk b cb s.c0.dc s.c0.rg s.c0.nd d w s.isUp] (fun r H' => r = u ∧ H' = [LgBk b cb s.c0.dc s.c0.rg s.c0.nd d w s.isUp])) :
  Ct prog f args [h] (fun r H' => r = u ∧ H' = [h]) := by
 obtain ⟨cb, d, w, v, hv, seg, t, hd, rfl, at_⟩ := hm
 exact Ct.ext (k cb d w)
theorem stillD {s : LSt} {b : Nat} {h : Hp} (hm : IsLg s b h) (hu : s.isUp = false) {f : FuncId} {args : List Value} {u : Value}
  (k : ∀ cb d w, Ct prog f args [LgBk b cb s.c0.dc s.c0.rg s.c0.nd d w false] (fun r H' => r = u ∧ H' = [LgBk b cb s.c0.dc s.c0.rg s.c0.nd d w false])) :
  Ct prog f args [h] (fun r H' => r = u ∧ ∃ h', H' = [h'] ∧ IsLg s b h') :=
 (hm.still fun cb d w => by rw [hu]; exact k cb d w).mono fun r H' ⟨h1, h2⟩ => ⟨h1, h, h2, hm⟩
section
variable {s : LSt} {N : Int} (ok : s.ok N) {b : Nat} {h : Hp} (hm : IsLg s b h)
include ok hm
theorem lgsync_ct : Ct prog 27 [.pointer (some ⟨b, 0, none⟩)] [h] (fun r H' => r = .tuple #[] ∧ ∃ h', H' = [h'] ∧ IsLg s.sync b h') := by
 cases s with
 | up l c t =>
  obtain ⟨cb, d, w, v, hv, seg, t', hd, rfl, at_⟩ := hm
  obtain rfl := at_.sg rfl
  obtain rfl := at_.tn l c t rfl
  have okl : LOk l := ok.lg.ok
  have okc : CsOk c := ok.ok
  have hsl : IsSl 43 c.lg v hv := at_.sl
  have hdk : IsDk (dk l) d hd := at_.dk
  exact (lsyncU_ct (w := w) (torn := t') okl b cb c.dc c.rg c.nd hdk okc hsl).pack (by simp [LSt.c0, LSt.ch, LSt.isUp, LSt.l0]) fun r H' ⟨h1, h2⟩ => let ⟨H'', e, p⟩ := h2.is (id_sync c); ⟨H'', e, h1, p⟩
 | dn l c q => exact stillD hm rfl fun cb d w => lsyncD_ct b cb c.dc c.rg c.nd d w
theorem lgtake_ct (fr ep ix : Int) (e : Ent) : Ct prog 25 [.pointer (some ⟨b, 0, none⟩), .int .i64 fr, .int .i64 ep, .int .i64 ix, .agg (List.toArray e.enc)] [h] (fun r H' => r = .bool (s.take fr ep ix e).1 ∧ ∃ h', H' = [h'] ∧ IsLg (s.take fr ep ix e).2 b h') := by
 cases s with
 | up l c t =>
  obtain ⟨cb, d, w, v, hv, seg, t', hd, rfl, at_⟩ := hm
  obtain rfl := at_.sg rfl
  obtain rfl := at_.tn l c t rfl
  have okl : LOk l := ok.lg.ok
  have okc : CsOk c := ok.ok
  have hsl : IsSl 43 c.lg v hv := at_.sl
  have hdk : IsDk (dk l) d hd := at_.dk
  exact (ltakeU_ct (w := w) (torn := t') okl b cb c.dc c.rg c.nd hdk okc hsl fr ep ix e).pack (by simp [LSt.c0, LSt.ch, LSt.isUp, LSt.l0]) fun r H' ⟨h1, h2⟩ => let ⟨H'', e', p⟩ := h2.is (id_take l c fr ep ix e); ⟨H'', e', h1, p⟩
 | dn l c q => exact stillD hm rfl fun cb d w => ltakeD_ct b cb c.dc c.rg c.nd d w fr ep ix e
theorem lginj_ct (e : Ent) : Ct prog 52 [.pointer (some ⟨b, 0, none⟩), .agg (List.toArray e.enc)] [h] (fun r H' => r = .int .i64 (s.inj e).1 ∧ ∃ h', H' = [h'] ∧ IsLg (s.inj e).2 b h') := by
 cases s with
 | up l c t =>
  obtain ⟨cb, d, w, v, hv, seg, t', hd, rfl, at_⟩ := hm
  obtain rfl := at_.sg rfl
  obtain rfl := at_.tn l c t rfl
  have okl : LOk l := ok.lg.ok
  have okc : CsOk c := ok.ok
  have hsl : IsSl 43 c.lg v hv := at_.sl
  have hdk : IsDk (dk l) d hd := at_.dk
  exact (linjU_ct (w := w) (torn := t') okl b cb c.dc c.rg c.nd hdk okc hsl e).pack (by simp [LSt.c0, LSt.ch, LSt.isUp, LSt.l0]) fun r H' ⟨h1, h2⟩ => let ⟨H'', e', p⟩ := h2.is (id_inj l c e); ⟨H'', e', h1, p⟩
 | dn l c q => exact stillD hm rfl fun cb d w => linjD_ct b cb c.dc c.rg c.nd d w e
theorem lgput_ct (key val : ByteArray) (dead : Bool) (deps : V9) (clock cl op : Int) : Ct prog 26 [.pointer (some ⟨b, 0, none⟩), .string key, .string val, .bool dead, .agg (List.toArray deps.enc), .int .i64 clock, .int .i64 cl, .int .i64 op] [h]
  (fun r H' => r = .tuple #[.int .i64 (s.put key val dead deps clock cl op).1.1, .int .i64 (s.put key val dead deps clock cl op).1.2] ∧ ∃ h', H' = [h'] ∧ IsLg (s.put key val dead deps clock cl op).2 b h') := by
 cases s with
 | up l c t =>
  obtain ⟨cb, d, w, v, hv, seg, t', hd, rfl, at_⟩ := hm
  obtain rfl := at_.sg rfl
  obtain rfl := at_.tn l c t rfl
  have okl : LOk l := ok.lg.ok
  have okc : CsOk c := ok.ok
  have hsl : IsSl 43 c.lg v hv := at_.sl
  have hdk : IsDk (dk l) d hd := at_.dk
  exact (lputU_ct (w := w) (torn := t') okl b cb c.dc c.rg c.nd hdk okc hsl key val dead deps clock cl op).pack (by simp [LSt.c0, LSt.ch, LSt.isUp, LSt.l0]) fun r H' ⟨h1, h2⟩ => let ⟨H'', e', p⟩ := h2.is (id_put l c key val dead deps clock cl op); ⟨H'', e', h1, p⟩
 | dn l c q => exact stillD hm rfl fun cb d w => lputD_ct b cb c.dc c.rg c.nd d w key val dead deps clock cl op
theorem lgenter_ct (x : Cfg) : Ct prog 39 [.pointer (some ⟨b, 0, none⟩), .agg (List.toArray x.enc)] [h] (fun r H' => r = .tuple #[.bool (s.enter x).1.1, .int .i64 (s.enter x).1.2] ∧ ∃ h', H' = [h'] ∧ IsLg (s.enter x).2 b h') := by
 cases s with
 | up l c t =>
  obtain ⟨cb, d, w, v, hv, seg, t', hd, rfl, at_⟩ := hm
  obtain rfl := at_.sg rfl
  obtain rfl := at_.tn l c t rfl
  have okl : LOk l := ok.lg.ok
  have okc : CsOk c := ok.ok
  have hsl : IsSl 43 c.lg v hv := at_.sl
  have hdk : IsDk (dk l) d hd := at_.dk
  exact (lentU_ct (w := w) (torn := t') okl b cb c.dc c.rg c.nd hdk okc hsl x).pack (by simp [LSt.c0, LSt.ch, LSt.isUp, LSt.l0]) fun r H' ⟨h1, h2⟩ => let ⟨H'', e', p⟩ := h2.is (id_ent l c x); ⟨H'', e', h1, p⟩
 | dn l c q => exact stillD hm rfl fun cb d w => lentD_ct b cb c.dc c.rg c.nd d w x
theorem lgcrash_ct {keep : Int} (hk1 : -9223372036854775808 ≤ keep) (hk2 : keep ≤ 9223372036854775807) : Ct prog 21 [.pointer (some ⟨b, 0, none⟩), .int .i64 keep] [h] (fun r H' => r = .tuple #[] ∧ ∃ h', H' = [h'] ∧ IsLg (s.crash keep) b h') := by
 cases s with
 | up l c t =>
  obtain ⟨cb, d, w, v, hv, seg, t', hd, rfl, at_⟩ := hm
  have okl : LOk l := ok.lg.ok
  have hdk : IsDk (dk l) d hd := at_.dk
  have h0 := (lcrashU_ct (seg := seg) (torn := t') (w := w) okl b cb c.dc c.rg c.nd hdk c v hk1 hk2).frame (F := [hv]) (post' := fun r H' => r = .tuple #[] ∧ ∃ cb' hd', H' = [LgBk b cb' c.dc c.rg c.nd d w false, CsBk cb' (CS.new c.dc c.rg c.nd) (.slice none 0 0), WBk w d seg t', hd'] ++ [hv] ∧ IsDk ⟨crashL l keep.toNat, []⟩ d hd') fun r H' ⟨h1, cb', hd', h2, h3⟩ => ⟨h1, cb', hd', by rw [h2], h3⟩
  have h1 := h0.perm (pre' := [LgBk b cb c.dc c.rg c.nd d w true, CsBk cb c v, hv, WBk w d seg t', hd]) (List.Perm.flatten (.cons _ (.cons _ (perm_append_comm (l₁ := [WBk w d seg t', hd]) (l₂ := [hv])))))
  refine h1.packP (by simp [LSt.c0, LSt.ch, LSt.isUp]) fun r H' ⟨h1, cb', hd', h2, h3⟩ => ?_
  subst h2
  exact ⟨[LgBk b cb' c.dc c.rg c.nd d w false ++ (CsBk cb' (CS.new c.dc c.rg c.nd) (.slice none 0 0) ++ ([] ++ (WBk w d seg t' ++ hd')))], hv, by simp, h1, _, rfl, cb', d, w, .slice none 0 0, [], seg, t', hd', rfl, ⟨IsSl.nil _, h3, fun e => (by cases e), fun l' c' t'' e => (by cases e), fun _ => ⟨rfl, rfl⟩⟩⟩
 | dn l c q => exact stillD hm rfl fun cb d w => lcrashD_ct b cb c.dc c.rg c.nd d w keep
end
def StartOf (s s' : LSt) : Prop := match s with
 | .up l c t => s' = .up l c t
 | .dn l c q => ∃ l' t', s' = .up l' (c.again (recs l')) t' ∧ LOk l' ∧ (∀ f ∈ l', f.full = f) ∧ sumK l ≤ keptN l q ∧ keptN l q ≤ (recs l).length ∧ recs l' = (recs l).take (keptN l q) ∧ (looseB l ≤ q → t' = 0) ∧ lastN l' ≤ lastN l
theorem StartOf.ok {s s' : LSt} {N : Int} (h : StartOf s s') (ok : s.ok N) : s'.ok N := by
 cases s with
 | up l c t => cases h; exact ok
 | dn l c q =>
  obtain ⟨l', t', rfl, ok', hf, h1, h2, h3, -, h4⟩ := h
  exact (LI.restart ok ok' hf h1 h2 h3 h4).1
theorem outF_le {l : List Lf} (ok : LOk l) : (outF (recs l)).length ≤ 1000000 := by
 have h1 := outF_len (recs l)
 have h2 := recs_count ok.good
 have h3 := ok.used
 omega
theorem LgOk.sub {l l' : List Lf} {m : Nat} (h : LgOk l) (hr : recs l' = (recs l).take m) : ∀ r ∈ outF (recs l'), r.k = 1 ∧ EntR r.e ∨ r.k = 2 ∧ RightC r.c := by
 intro r hm
 obtain ⟨h1, h2⟩ := outF_mem _ r hm
 rw [hr] at h1
 rcases h.re r (mem_of_mem_take h1) with h | h | h
 ·exact .inl h
 ·exact .inr h
 ·exact absurd h h2
theorem lgstart {s : LSt} {N : Int} (ok : s.ok N) : ∃ s', s'.ok N ∧ StartOf s s' ∧ ∀ {b : Nat} {h : Hp}, IsLg s b h → Ct prog 15 [.pointer (some ⟨b, 0, none⟩)] [h] (fun r H' => r = .tuple #[] ∧ ∃ h', H' = [h'] ∧ IsLg s' b h') := by
 cases s with
 | up l c t =>
  refine ⟨.up l c t, ok, rfl, fun {b h} hm => ?_⟩
  exact (hm.still fun cb d w => lstartU_ct b cb c.dc c.rg c.nd d w).mono fun r H' ⟨h1, h2⟩ => ⟨h1, h, h2, hm⟩
 | dn l c q =>
  have lg : LgOk l := ok.lg
  obtain ⟨l', t', ok', ⟨hf, h1, h2, h3, h4, h5⟩, hp, -⟩ := both_openK lg.ok q
  have hst : StartOf (.dn l c q) (.up l' (c.again (recs l')) t') := ⟨l', t', rfl, ok', hf, h1, h2, h3, h4, h5⟩
  refine ⟨_, hst.ok ok, hst, fun {b h} hm => ?_⟩
  obtain ⟨cb, d, w, v, hv, seg, t, hd, rfl, at_⟩ := hm
  obtain ⟨rfl, rfl⟩ := at_.nv rfl
  have hdk : IsDk ⟨crashL l q, []⟩ d hd := at_.dk
  have hid := id_again c (recs l')
  have h0 := (lstartD_ct b cb c.dc c.rg c.nd (w := w) (hp hdk) (outF_le ok') (lg.sub h3)).frame (F := [CsBk cb (CS.new c.dc c.rg c.nd) (.slice none 0 0), WBk w d seg t])
   (post' := fun r H' => r = .tuple #[] ∧ ∃ cb' w' hd' v hv, H' = [LgBk b cb' c.dc c.rg c.nd d w' true, CsBk cb' (c.again (recs l')) v, hv, WBk w' d (lastN l') t', hd'] ++ [CsBk cb (CS.new c.dc c.rg c.nd) (.slice none 0 0), WBk w d seg t] ∧ IsSl 43 (c.again (recs l')).lg v hv ∧ IsDk (dk l') d hd') fun r H' ⟨e1, cb', w', hd', v', hv', e2, e3, e4⟩ => ⟨e1, cb', w', hd', v', hv', by rw [e2]; rfl, e3, e4⟩
  have h1 := h0.perm (pre' := [LgBk b cb c.dc c.rg c.nd d w false, CsBk cb (CS.new c.dc c.rg c.nd) (.slice none 0 0), WBk w d seg t, hd]) (List.Perm.flatten (.cons _ (perm_append_comm (l₁ := [hd]) (l₂ := [CsBk cb (CS.new c.dc c.rg c.nd) (.slice none 0 0), WBk w d seg t]))))
  refine h1.packP (by simp [LSt.c0, LSt.ch, LSt.isUp]) fun r H' ⟨e1, cb', w', hd', v', hv', e2, e3, e4⟩ => ?_
  subst e2
  refine ⟨[LgBk b cb' (c.again (recs l')).dc (c.again (recs l')).rg (c.again (recs l')).nd d w' true ++ (CsBk cb' (c.again (recs l')) v' ++ (hv' ++ (WBk w' d (lastN l') t' ++ hd')))], CsBk cb (CS.new c.dc c.rg c.nd) (.slice none 0 0) ++ WBk w d seg t, ?_, e1, _, rfl, cb', d, w', v', hv', lastN l', t', hd', rfl, ⟨e3, e4, fun _ => rfl, fun l'' c'' t'' e => (by cases e; rfl), fun e => (by cases e)⟩⟩
  rw [hid.1, hid.2.1, hid.2.2]
  simp
end Go.Proofs.YtejfahjgfedliaaGreat
