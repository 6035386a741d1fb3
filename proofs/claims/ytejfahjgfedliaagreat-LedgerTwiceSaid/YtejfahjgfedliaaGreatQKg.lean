/-
  Texts of one road, one behind the other.
-/
import Derived.Test.YtejfahjgfedliaaGreatQKf
import Derived.Test.YtejfahjgfedliaaGreatQKb
import Derived.Test.YtejfahjgfedliaaGreatQKc
import Derived.Test.YtejfahjgfedliaaGreatQKe
import Derived.Test.YtejfahjgfedliaaGreatQKd
import Derived.ChangeShapes
set_option linter.unusedVariables false
set_option linter.unusedSimpArgs false
namespace Go.Proofs.YtejfahjgfedliaaGreat
open Go Go.Sl Go.Proofs.Tryz List
def LSt.rdk (s : LSt) (d : Nat) (T : Int) (hd : Hp) : Prop := match s with
 | .up l _ _ => RD l d hd T
 | .dn l _ q => ∃ t, 0 ≤ t ∧ t ≤ T ∧ IsRk (((crashL l q).map fq).map RfQ.pl) t d hd
structure DlAt (s : LSt) (cb d w : Nat) (v : Value) (hv : Hp) (seg : Int) (hd : Hp) (T : Int) : Prop where
 sl : IsSl 43 s.ch.lg v hv
 dk : s.rdk d T hd
 sg : s.isUp = true → seg = lastN s.l0
 nv : s.isUp = false → v = .slice none 0 0 ∧ hv = []
def IsDl (s : LSt) (b : Nat) (T : Int) (h : Hp) : Prop := ∃ cb d w v hv seg t tn hd, h = DlBk b cb d w s.isUp tn ++ (DsBk cb s.ch v ++ (hv ++ (VBk w d seg t ++ hd))) ∧ DlAt s cb d w v hv seg hd T
theorem LSt.rdk.mono {s : LSt} {d : Nat} {T T' : Int} {hd : Hp} (h : s.rdk d T hd) (hT : T ≤ T') : s.rdk d T' hd := by
 cases s with
 | up l c t => exact RD.mono h hT
 | dn l c q => obtain ⟨t, h1, h2, h3⟩ := h; exact ⟨t, h1, by omega, h3⟩
theorem IsDl.mono {s : LSt} {b : Nat} {T T' : Int} {h : Hp} (hm : IsDl s b T h) (hT : T ≤ T') : IsDl s b T' h := by
 obtain ⟨cb, d, w, v, hv, seg, t, tn, hd, e, at_⟩ := hm
 exact ⟨cb, d, w, v, hv, seg, t, tn, hd, e, ⟨at_.sl, at_.dk.mono hT, at_.sg, at_.nv⟩⟩
def LSt.dtake (s : LSt) (fr ep ix : Int) (e : Ent) : Bool × LSt := match s with
 | .up l c t => ((dtakeLS l c fr ep ix e).1, .up (dtakeLS l c fr ep ix e).2.2 (dtakeLS l c fr ep ix e).2.1 t)
 | .dn l c q => (false, .dn l c q)
def LSt.dinj (s : LSt) (e : Ent) : Int × LSt := match s with
 | .up l c t => ((dinjLS l c e).1, .up (dinjLS l c e).2.2 (dinjLS l c e).2.1 t)
 | .dn l c q => (52, .dn l c q)
def LSt.dput (s : LSt) (key val : ByteArray) (dead : Bool) (deps : V9) (clock cl op : Int) : (Int × Int) × LSt := match s with
 | .up l c t => ((dputLS l c key val dead deps clock cl op).1, .up (dputLS l c key val dead deps clock cl op).2.2 (dputLS l c key val dead deps clock cl op).2.1 t)
 | .dn l c q => ((0, 52), .dn l c q)
def LSt.denter (s : LSt) (x : Cfg) : (Bool × Int) × LSt := match s with
 | .up l c t => ((dentLS l c x).1, .up (entLS l c x).2.2 (entLS l c x).2.1 t)
 | .dn l c q => ((false, 52), .dn l c q)
section
variable {s : LSt} {N : Int}
theorem LSt.ok.dtake (h : s.ok N) (hN : N < 1099511627776) (fr ep ix : Int) (e : Ent) : (s.dtake fr ep ix e).2.ok (N + 1) := by
 cases s with
 | up l c t =>
  have h : LI l c N := h
  show LI (dtakeLS l c fr ep ix e).2.2 (dtakeLS l c fr ep ix e).2.1 (N + 1)
  unfold dtakeLS
  split
  ·rename_i hr; exact h.grew (Grew.dtake c fr ep ix e) hr hN
  ·exact h.mono (by omega)
 | dn l c q => exact LI.mono h (by omega)
theorem LSt.ok.dinj (h : s.ok N) (hN : N < 1099511627776) (e : Ent) : (s.dinj e).2.ok (N + 1) := by
 cases s with
 | up l c t =>
  have h : LI l c N := h
  show LI (dinjLS l c e).2.2 (dinjLS l c e).2.1 (N + 1)
  unfold dinjLS
  split
  ·rename_i hr; exact h.grew (Grew.dinject c e) hr hN
  ·exact h.mono (by omega)
 | dn l c q => exact LI.mono h (by omega)
theorem LSt.ok.dput (h : s.ok N) (hN : N < 1099511627776) (key val : ByteArray) (dead : Bool) (deps : V9) (clock cl op : Int) : (s.dput key val dead deps clock cl op).2.ok (N + 1) := by
 cases s with
 | up l c t =>
  have h : LI l c N := h
  show LI (dputLS l c key val dead deps clock cl op).2.2 (dputLS l c key val dead deps clock cl op).2.1 (N + 1)
  unfold dputLS
  split
  ·rename_i hr; exact h.grew (Grew.dput c key val dead deps clock cl op) hr hN
  ·exact h.mono (by omega)
 | dn l c q => exact LI.mono h (by omega)
theorem LSt.ok.denter (h : s.ok N) (hN : N + 2 < 1099511627776) (x : Cfg) : (s.denter x).2.ok (N + 2) := by
 cases s with
 | up l c t => exact LI.enter h x hN
 | dn l c q => exact LI.mono h (by omega)
end
theorem DPost.is {b cb d w : Nat} {torn tn T : Int} {c : CS} {l : List Lf} {H' : HH} (h : DPost b cb d w torn tn c l T H') (t : Int) : ∃ H'', H''.flatten = H'.flatten ∧ ∃ h', H'' = [h'] ∧ IsDl (.up l c t) b T h' := by
 obtain ⟨v, hv, hd, rfl, hs, hk⟩ := h
 exact ⟨[DlBk b cb d w true tn ++ (DsBk cb c v ++ (hv ++ (VBk w d (lastN l) torn ++ hd)))], by simp, _, rfl, cb, d, w, v, hv, lastN l, torn, tn, hd, rfl, ⟨hs, hk, fun _ => rfl, fun e => (by cases e)⟩⟩
theorem IsDl.still {s : LSt} {b : Nat} {T : Int} {h : Hp} (hm : IsDl s b T h) {f : FuncId} {args : List Value} {u : Value}
  (k : ∀ cb d w tn, Ct prog f args [DlBk b cb d w s.isUp tn] (fun r H' => r = u ∧ H' = [DlBk b cb d w s.isUp tn])) :
  Ct prog f args [h] (fun r H' => r = u ∧ H' = [h]) := by
 obtain ⟨cb, d, w, v, hv, seg, t, tn, hd, rfl, at_⟩ := hm
 exact Ct.ext (k cb d w tn)
theorem dstillD {s : LSt} {b : Nat} {T T' : Int} {h : Hp} (hm : IsDl s b T h) (hT : T ≤ T') (hu : s.isUp = false) {f : FuncId} {args : List Value} {u : Value}
  (k : ∀ cb d w tn, Ct prog f args [DlBk b cb d w false tn] (fun r H' => r = u ∧ H' = [DlBk b cb d w false tn])) :
  Ct prog f args [h] (fun r H' => r = u ∧ ∃ h', H' = [h'] ∧ IsDl s b T' h') :=
 (hm.still fun cb d w tn => by rw [hu]; exact k cb d w tn).mono fun r H' ⟨h1, h2⟩ => ⟨h1, h, h2, hm.mono hT⟩
section
variable {s : LSt} {N T : Int} (ok : s.ok N) {b : Nat} {h : Hp} (hm : IsDl s b T h) (hT0 : 0 ≤ T) (hT : T ≤ 68719476736)
include ok hm hT0 hT
theorem dgsync_ct : Ct prog 56 [.pointer (some ⟨b, 0, none⟩)] [h] (fun r H' => r = .tuple #[] ∧ ∃ h', H' = [h'] ∧ IsDl s.sync b (T + 243) h') := by
 cases s with
 | up l c t =>
  obtain ⟨cb, d, w, v, hv, seg, t', tn, hd, rfl, at_⟩ := hm
  obtain rfl := at_.sg rfl
  have okl : LOk l := ok.lg.ok
  have okc : CsOk c := ok.ok
  have hsl : IsSl 43 c.lg v hv := at_.sl
  have hdk : RD l d hd T := at_.dk
  exact (dlsync_ct (w := w) (torn := t') (tn := tn) okl b cb hdk hT0 (by omega) okc hsl).pack (by simp [LSt.c0, LSt.ch, LSt.isUp, LSt.l0]) fun r H' ⟨h1, h2⟩ => let ⟨H'', e, p⟩ := h2.is t; ⟨H'', e, h1, p⟩
 | dn l c q => exact dstillD hm (by omega) rfl fun cb d w tn => dlsyncD_ct b cb d w tn
theorem dgtake_ct (fr ep ix : Int) (e : Ent) : Ct prog 55 [.pointer (some ⟨b, 0, none⟩), .int .i64 fr, .int .i64 ep, .int .i64 ix, .agg (List.toArray e.enc)] [h] (fun r H' => r = .bool (s.dtake fr ep ix e).1 ∧ ∃ h', H' = [h'] ∧ IsDl (s.dtake fr ep ix e).2 b (T + 243) h') := by
 cases s with
 | up l c t =>
  obtain ⟨cb, d, w, v, hv, seg, t', tn, hd, rfl, at_⟩ := hm
  obtain rfl := at_.sg rfl
  have okl : LOk l := ok.lg.ok
  have okc : CsOk c := ok.ok
  have hsl : IsSl 43 c.lg v hv := at_.sl
  have hdk : RD l d hd T := at_.dk
  exact (dltake_ct (w := w) (torn := t') (tn := tn) okl b cb hdk hT0 (by omega) okc hsl fr ep ix e).pack (by simp [LSt.c0, LSt.ch, LSt.isUp, LSt.l0]) fun r H' ⟨h1, h2⟩ => let ⟨H'', e', p⟩ := h2.is t; ⟨H'', e', h1, p⟩
 | dn l c q => exact dstillD hm (by omega) rfl fun cb d w tn => dltakeD_ct b cb d w tn fr ep ix e
theorem dginj_ct (e : Ent) : Ct prog 53 [.pointer (some ⟨b, 0, none⟩), .agg (List.toArray e.enc)] [h] (fun r H' => r = .int .i64 (s.dinj e).1 ∧ ∃ h', H' = [h'] ∧ IsDl (s.dinj e).2 b (T + 243) h') := by
 cases s with
 | up l c t =>
  obtain ⟨cb, d, w, v, hv, seg, t', tn, hd, rfl, at_⟩ := hm
  obtain rfl := at_.sg rfl
  have okl : LOk l := ok.lg.ok
  have okc : CsOk c := ok.ok
  have hsl : IsSl 43 c.lg v hv := at_.sl
  have hdk : RD l d hd T := at_.dk
  exact (dlinj_ct (w := w) (torn := t') (tn := tn) okl b cb hdk hT0 (by omega) okc hsl e).pack (by simp [LSt.c0, LSt.ch, LSt.isUp, LSt.l0]) fun r H' ⟨h1, h2⟩ => let ⟨H'', e', p⟩ := h2.is t; ⟨H'', e', h1, p⟩
 | dn l c q => exact dstillD hm (by omega) rfl fun cb d w tn => dlinjD_ct b cb d w tn e
theorem dgput_ct (key val : ByteArray) (dead : Bool) (deps : V9) (clock cl op : Int) : Ct prog 51 [.pointer (some ⟨b, 0, none⟩), .string key, .string val, .bool dead, .agg (List.toArray deps.enc), .int .i64 clock, .int .i64 cl, .int .i64 op] [h]
  (fun r H' => r = .tuple #[.int .i64 (s.dput key val dead deps clock cl op).1.1, .int .i64 (s.dput key val dead deps clock cl op).1.2] ∧ ∃ h', H' = [h'] ∧ IsDl (s.dput key val dead deps clock cl op).2 b (T + 243) h') := by
 cases s with
 | up l c t =>
  obtain ⟨cb, d, w, v, hv, seg, t', tn, hd, rfl, at_⟩ := hm
  obtain rfl := at_.sg rfl
  have okl : LOk l := ok.lg.ok
  have okc : CsOk c := ok.ok
  have hsl : IsSl 43 c.lg v hv := at_.sl
  have hdk : RD l d hd T := at_.dk
  exact (dlput_ct (w := w) (torn := t') (tn := tn) okl b cb hdk hT0 (by omega) okc hsl key val dead deps clock cl op).pack (by simp [LSt.c0, LSt.ch, LSt.isUp, LSt.l0]) fun r H' ⟨h1, h2⟩ => let ⟨H'', e', p⟩ := h2.is t; ⟨H'', e', h1, p⟩
 | dn l c q => exact dstillD hm (by omega) rfl fun cb d w tn => dlputD_ct b cb d w tn key val dead deps clock cl op
theorem dgenter_ct (x : Cfg) : Ct prog 50 [.pointer (some ⟨b, 0, none⟩), .agg (List.toArray x.enc)] [h] (fun r H' => r = .tuple #[.bool (s.denter x).1.1, .int .i64 (s.denter x).1.2] ∧ ∃ h', H' = [h'] ∧ IsDl (s.denter x).2 b (T + 486) h') := by
 cases s with
 | up l c t =>
  obtain ⟨cb, d, w, v, hv, seg, t', tn, hd, rfl, at_⟩ := hm
  obtain rfl := at_.sg rfl
  have okl : LOk l := ok.lg.ok
  have okc : CsOk c := ok.ok
  have hsl : IsSl 43 c.lg v hv := at_.sl
  have hdk : RD l d hd T := at_.dk
  have hce := dlenter_ct (w := w) (torn := t') (tn := tn) okl b cb hdk hT0 (by omega) okc hsl x
  rw [dentLS_2] at hce
  exact hce.pack (by simp [LSt.c0, LSt.ch, LSt.isUp, LSt.l0]) fun r H' ⟨h1, h2⟩ => let ⟨H'', e', p⟩ := h2.is t; ⟨H'', e', h1, p⟩
 | dn l c q => exact dstillD hm (by omega) rfl fun cb d w tn => dlenterD_ct b cb d w tn x
theorem dgcrash_ct {keep : Int} (hk1 : -9223372036854775808 ≤ keep) (hk2 : keep ≤ 9223372036854775807) : Ct prog 59 [.pointer (some ⟨b, 0, none⟩), .int .i64 keep] [h] (fun r H' => r = .tuple #[] ∧ ∃ h', H' = [h'] ∧ IsDl (s.crash keep) b T h') := by
 cases s with
 | up l c t =>
  obtain ⟨cb, d, w, v, hv, seg, t', tn, hd, rfl, at_⟩ := hm
  have okl : LOk l := ok.lg.ok
  have hdk : RD l d hd T := at_.dk
  have h0 := (dlcrash_ct (seg := seg) (torn := t') (tn := tn) (w := w) okl b cb hdk (by omega) c v hk1 hk2).frame (F := [hv]) (post' := fun r H' => r = .tuple #[] ∧ ∃ cb' hd', H' = [DlBk b cb' d w false tn, DsBk cb' (CS.new c.dc c.rg c.nd) (.slice none 0 0), VBk w d seg t', hd'] ++ [hv] ∧ ∃ t, 0 ≤ t ∧ t ≤ T ∧ IsRk (((crashL l keep.toNat).map fq).map RfQ.pl) t d hd') fun r H' ⟨h1, cb', hd', h2, h3⟩ => ⟨h1, cb', hd', by rw [h2], h3⟩
  have h1 := h0.perm (pre' := [DlBk b cb d w true tn, DsBk cb c v, hv, VBk w d seg t', hd]) (List.Perm.flatten (.cons _ (.cons _ (perm_append_comm (l₁ := [VBk w d seg t', hd]) (l₂ := [hv])))))
  refine h1.packP (by simp [LSt.c0, LSt.ch, LSt.isUp]) fun r H' ⟨h1, cb', hd', h2, h3⟩ => ?_
  subst h2
  exact ⟨[DlBk b cb' d w false tn ++ (DsBk cb' (CS.new c.dc c.rg c.nd) (.slice none 0 0) ++ ([] ++ (VBk w d seg t' ++ hd')))], hv, by simp, h1, _, rfl, cb', d, w, .slice none 0 0, [], seg, t', tn, hd', rfl, ⟨IsSl.nil _, h3, fun e => (by cases e), fun _ => ⟨rfl, rfl⟩⟩⟩
 | dn l c q => exact dstillD hm (Int.le_refl _) rfl fun cb d w tn => dlcrashD_ct b cb d w tn keep
end
theorem dgstart {s : LSt} {N : Int} (ok : s.ok N) : ∃ s', s'.ok N ∧ StartOf s s' ∧ ∀ {b : Nat} {h : Hp} {T : Int}, IsDl s b T h → Ct prog 60 [.pointer (some ⟨b, 0, none⟩)] [h] (fun r H' => r = .tuple #[] ∧ ∃ h', H' = [h'] ∧ IsDl s' b T h') := by
 cases s with
 | up l c t =>
  refine ⟨.up l c t, ok, rfl, fun {b h T} hm => ?_⟩
  exact (hm.still fun cb d w tn => dlstartU_ct b cb d w tn).mono fun r H' ⟨h1, h2⟩ => ⟨h1, h, h2, hm⟩
 | dn l c q =>
  have lg : LgOk l := ok.lg
  obtain ⟨l', t', ok', ⟨hf, h1, h2, h3, h4, h5⟩, -, hp⟩ := both_openK lg.ok q
  have hst : StartOf (.dn l c q) (.up l' (c.again (recs l')) t') := ⟨l', t', rfl, ok', hf, h1, h2, h3, h4, h5⟩
  refine ⟨_, hst.ok ok, hst, fun {b h T} hm => ?_⟩
  obtain ⟨cb, d, w, v, hv, seg, t, tn, hd, rfl, at_⟩ := hm
  obtain ⟨rfl, rfl⟩ := at_.nv rfl
  obtain ⟨t0, k0, k1, hdk⟩ := (show ∃ t, 0 ≤ t ∧ t ≤ T ∧ IsRk (((crashL l q).map fq).map RfQ.pl) t d hd from at_.dk)
  have h0 := (dlstartD_ct b cb c (w := w) (tn := tn) (hp k0 k1 hdk) (outF_le ok') (lg.sub h3)).frame (F := [VBk w d seg t])
   (post' := fun r H' => r = .tuple #[] ∧ ∃ cb' w' hd' tn' v hv, H' = [DlBk b cb' d w' true tn', DsBk cb' (c.again (recs l')) v, hv, VBk w' d (lastN l') t', hd'] ++ [VBk w d seg t] ∧ IsSl 43 (c.again (recs l')).lg v hv ∧ RD l' d hd' T) fun r H' ⟨e1, cb', w', hd', tn', v', hv', e2, e3, e4⟩ => ⟨e1, cb', w', hd', tn', v', hv', by rw [e2]; rfl, e3, e4⟩
  have h1 := h0.perm (pre' := [DlBk b cb d w false tn, DsBk cb (CS.new c.dc c.rg c.nd) (.slice none 0 0), VBk w d seg t, hd]) (List.Perm.flatten (.cons _ (.cons _ (perm_append_comm (l₁ := [hd]) (l₂ := [VBk w d seg t])))))
  refine h1.packP (by simp [LSt.c0, LSt.ch, LSt.isUp]) fun r H' ⟨e1, cb', w', hd', tn', v', hv', e2, e3, e4⟩ => ?_
  subst e2
  exact ⟨[DlBk b cb' d w' true tn' ++ (DsBk cb' (c.again (recs l')) v' ++ (hv' ++ (VBk w' d (lastN l') t' ++ hd')))], VBk w d seg t, by simp, e1, _, rfl, cb', d, w', v', hv', lastN l', t', tn', hd', rfl, ⟨e3, e4, fun _ => rfl, fun e => (by cases e)⟩⟩
end Go.Proofs.YtejfahjgfedliaaGreat

namespace Go.Proofs.YtejfahjgfedliaaGreat
open Go Go.Sl Go.Proofs.Tryz
structure La where
 (k a b n : Int)
 x : Cfg
 (key val : ByteArray)
 dead : Bool
 dp : V9
 e : Ent
def La.enc (a : La) : List Value := [.int .i64 a.k, .int .i64 a.a, .int .i64 a.b, .int .i64 a.n] ++ (a.x.enc ++ ([.string a.key, .string a.val, .bool a.dead] ++ (a.dp.enc ++ a.e.enc)))
instance : Enc La := ⟨49, La.enc, fun _ => rfl, fun _ => rfl, by decide⟩
abbrev AcBk (b : Nat) (a : La) : Hp := [(b, .cells (List.toArray a.enc) 45 (0, 0))]
theorem heard_ch (s : LSt) (f ep du st : Int) : (s.heard f ep du st).2.ch = (s.ch.heard f ep du st).2 ∧ (s.heard f ep du st).2.isUp = s.isUp ∧ (s.heard f ep du st).2.l0 = s.l0 ∧ (s.heard f ep du st).2.dsk = s.dsk ∧ sameId s.c0 (s.heard f ep du st).2.c0 := by
 cases s with
 | up l c t => exact ⟨rfl, rfl, rfl, rfl, id_heard c f ep du st⟩
 | dn l c q => exact ⟨by show CS.new _ _ _ = _; rw [show (LSt.dn l c q).ch = CS.new c.dc c.rg c.nd from rfl, heard_new], rfl, rfl, rfl, sameId.refl c⟩
theorem heard_lg (c : CS) (f ep du st : Int) : (c.heard f ep du st).2.lg = c.lg := by
 unfold CS.heard
 split
 ·exact (settle_same _).2.2.2.2.2.2.1.trans (heard0_same c f _ _).2.2.2.2.2.2.1
 ·rfl
theorem IsLg.heard {s : LSt} {b cb d w : Nat} {v : Value} {hv : Hp} {seg t : Int} {hd : Hp} (at_ : LgAt s cb d w v hv seg t hd) (f ep du st : Int) :
  IsLg (s.heard f ep du st).2 b (LgBk b cb s.c0.dc s.c0.rg s.c0.nd d w s.isUp ++ (CsBk cb (s.ch.heard f ep du st).2 v ++ (hv ++ (WBk w d seg t ++ hd)))) := by
 obtain ⟨h1, h2, h3, h4, h5⟩ := heard_ch s f ep du st
 refine ⟨cb, d, w, v, hv, seg, t, hd, by rw [h1, h2, h5.1, h5.2.1, h5.2.2], ⟨by rw [h1, heard_lg]; exact at_.sl, by rw [h4]; exact at_.dk, by rw [h2, h3]; exact at_.sg, fun l c t' e => ?_, by rw [h2]; exact at_.nv⟩⟩
 cases s with
 | up l0 c0 t0 => cases e; exact at_.tn _ _ _ rfl
 | dn l0 c0 q0 => cases e
theorem heard_rdk (s : LSt) (f ep du st : Int) (d : Nat) (T : Int) (hd : Hp) (h : s.rdk d T hd) : (s.heard f ep du st).2.rdk d T hd := by
 cases s with
 | up l c t => exact h
 | dn l c q => exact h
theorem IsDl.heard {s : LSt} {b cb d w : Nat} {v : Value} {hv : Hp} {seg t tn T : Int} {hd : Hp} (at_ : DlAt s cb d w v hv seg hd T) (f ep du st : Int) :
  IsDl (s.heard f ep du st).2 b T (DlBk b cb d w s.isUp tn ++ (DsBk cb (s.ch.heard f ep du st).2 v ++ (hv ++ (VBk w d seg t ++ hd)))) := by
 obtain ⟨h1, h2, h3, h4, h5⟩ := heard_ch s f ep du st
 exact ⟨cb, d, w, v, hv, seg, t, tn, hd, by rw [h1, h2], ⟨by rw [h1, heard_lg]; exact at_.sl, heard_rdk s f ep du st d T hd at_.dk, by rw [h2, h3]; exact at_.sg, by rw [h2]; exact at_.nv⟩⟩
theorem LSt.ok.ch {s : LSt} {N : Int} (h : s.ok N) : CsOk s.ch := by
 cases s with
 | up l c t => exact LI.ok h
 | dn l c q => exact CsOk.new _ _ _
def ActPost (sP sD : LSt) (b bd : Nat) (T : Int) (v : Value) (H' : HH) : Prop := ∃ bo h' hd', v = .bool bo ∧ H'.flatten = h' ++ hd' ∧ IsLg sP b h' ∧ IsDl sD bd T hd'
theorem ActPost.of {sP sD : LSt} {b bd : Nat} {T : Int} {bo : Bool} {h' hd' : Hp} (h1 : IsLg sP b h') (h2 : IsDl sD bd T hd') : ActPost sP sD b bd T (.bool bo) [h', hd'] := ⟨bo, h', hd', rfl, by simp, h1, h2⟩
section
variable {sP sD : LSt} {N T : Int} (okP : sP.ok N) (okD : sD.ok N) {b bd : Nat} {cb d w cb2 d2 w2 : Nat} {v v2 : Value} {hv hv2 : Hp} {seg t seg2 t2 tn2 : Int} {hk hk2 : Hp}
 (aP : LgAt sP cb d w v hv seg t hk) (aD : DlAt sD cb2 d2 w2 v2 hv2 seg2 hk2 T) (hT0 : 0 ≤ T) (hT : T ≤ 68719476736)
include okP okD aP aD hT0 hT
set_option maxRecDepth 10000 in
set_option maxHeartbeats 2000000 in
theorem act1_ct (a : La) (hk1 : a.k = 1) : Ct prog 14 [.pointer (some ⟨b, 0, none⟩), .pointer (some ⟨bd, 0, none⟩), .agg (List.toArray a.enc)] [LgBk b cb sP.c0.dc sP.c0.rg sP.c0.nd d w sP.isUp, CsBk cb sP.ch v, hv, WBk w d seg t, hk, DlBk bd cb2 d2 w2 sD.isUp tn2, DsBk cb2 sD.ch v2, hv2, VBk w2 d2 seg2 t2, hk2]
  (fun r H' => ActPost (sP.enter a.x).2 (sD.denter a.x).2 b bd (T + 486) r H') := by
 have mP : IsLg sP b _ := ⟨cb, d, w, v, hv, seg, t, hk, rfl, aP⟩
 have mD : IsDl sD bd T _ := ⟨cb2, d2, w2, v2, hv2, seg2, t2, tn2, hk2, rfl, aD⟩
 have qP := (Ct.pack (pre' := [LgBk b cb sP.c0.dc sP.c0.rg sP.c0.nd d w sP.isUp, CsBk cb sP.ch v, hv, WBk w d seg t, hk]) (lgenter_ct okP mP a.x) (by simp) (fun v H' p => ⟨H', rfl, p⟩))
 have qD := (Ct.pack (pre' := [DlBk bd cb2 d2 w2 sD.isUp tn2, DsBk cb2 sD.ch v2, hv2, VBk w2 d2 seg2 t2, hk2]) (dgenter_ct okD mD hT0 hT a.x) (by simp) (fun v H' p => ⟨H', rfl, p⟩))
 refine Ct.mk' func14 rfl rfl rfl (fun g R => ?_)
 try simp only [ca]
 simp only [na]
 repeat' (first | refine runS ?_ | refine gS (fun _ => ?_) (fun _ => ?_) | refine bx rfl (fun _ => ?_) | refine al (fun _ => ?_) | refine lAN (t := 34) a.enc a.x.enc rfl ?_ | refine lAN (t := 37) a.enc a.dp.enc rfl ?_ | refine lAN (t := 43) a.enc a.e.enc rfl ?_ | refine lAN (t := 34) (sD.ch.cells v2) (cfO sD.ch.co).enc rfl ?_ | refine WX.eqlBB rfl rfl rfl ?_ | refine WX.eqlB rfl rfl rfl ?_ | fail)
 rename_i b5
 refine WX.call rfl qP rfl ?_
 rintro _ _ ⟨rfl, h', rfl, iP⟩
 simp only [ca, na]
 repeat' (first | refine runS ?_ | refine gS (fun _ => ?_) (fun _ => ?_) | refine bx rfl (fun _ => ?_) | refine al (fun _ => ?_) | refine lAN (t := 34) a.enc a.x.enc rfl ?_ | refine lAN (t := 37) a.enc a.dp.enc rfl ?_ | refine lAN (t := 43) a.enc a.e.enc rfl ?_ | refine lAN (t := 34) (sD.ch.cells v2) (cfO sD.ch.co).enc rfl ?_ | refine WX.eqlBB rfl rfl rfl ?_ | refine WX.eqlB rfl rfl rfl ?_ | fail)
 refine WX.call rfl qD rfl ?_
 rintro _ _ ⟨rfl, hd', rfl, iD⟩
 simp only [ca, na]
 repeat' (first | refine runS ?_ | refine gS (fun _ => ?_) (fun _ => ?_) | refine bx rfl (fun _ => ?_) | refine al (fun _ => ?_) | refine lAN (t := 34) a.enc a.x.enc rfl ?_ | refine lAN (t := 37) a.enc a.dp.enc rfl ?_ | refine lAN (t := 43) a.enc a.e.enc rfl ?_ | refine lAN (t := 34) (sD.ch.cells v2) (cfO sD.ch.co).enc rfl ?_ | refine WX.eqlBB rfl rfl rfl ?_ | refine WX.eqlB rfl rfl rfl ?_ | fail)
 all_goals exact D.fin1 [h', hd'] _ rfl rfl (ActPost.of iP iD)
set_option maxRecDepth 10000 in
set_option maxHeartbeats 2000000 in
theorem act2_ct (a : La) (hk1 : a.k = 2) : Ct prog 14 [.pointer (some ⟨b, 0, none⟩), .pointer (some ⟨bd, 0, none⟩), .agg (List.toArray a.enc)] [LgBk b cb sP.c0.dc sP.c0.rg sP.c0.nd d w sP.isUp, CsBk cb sP.ch v, hv, WBk w d seg t, hk, DlBk bd cb2 d2 w2 sD.isUp tn2, DsBk cb2 sD.ch v2, hv2, VBk w2 d2 seg2 t2, hk2]
  (fun r H' => ActPost (sP.put a.key a.val a.dead a.dp a.a a.b a.n).2 (sD.dput a.key a.val a.dead a.dp a.a a.b a.n).2 b bd (T + 243) r H') := by
 have mP : IsLg sP b _ := ⟨cb, d, w, v, hv, seg, t, hk, rfl, aP⟩
 have mD : IsDl sD bd T _ := ⟨cb2, d2, w2, v2, hv2, seg2, t2, tn2, hk2, rfl, aD⟩
 have qP := (Ct.pack (pre' := [LgBk b cb sP.c0.dc sP.c0.rg sP.c0.nd d w sP.isUp, CsBk cb sP.ch v, hv, WBk w d seg t, hk]) (lgput_ct okP mP a.key a.val a.dead a.dp a.a a.b a.n) (by simp) (fun v H' p => ⟨H', rfl, p⟩))
 have qD := (Ct.pack (pre' := [DlBk bd cb2 d2 w2 sD.isUp tn2, DsBk cb2 sD.ch v2, hv2, VBk w2 d2 seg2 t2, hk2]) (dgput_ct okD mD hT0 hT a.key a.val a.dead a.dp a.a a.b a.n) (by simp) (fun v H' p => ⟨H', rfl, p⟩))
 refine Ct.mk' func14 rfl rfl rfl (fun g R => ?_)
 try simp only [ca]
 simp only [na]
 repeat' (first | refine runS ?_ | refine gS (fun _ => ?_) (fun _ => ?_) | refine bx rfl (fun _ => ?_) | refine al (fun _ => ?_) | refine lAN (t := 34) a.enc a.x.enc rfl ?_ | refine lAN (t := 37) a.enc a.dp.enc rfl ?_ | refine lAN (t := 43) a.enc a.e.enc rfl ?_ | refine lAN (t := 34) (sD.ch.cells v2) (cfO sD.ch.co).enc rfl ?_ | refine WX.eqlBB rfl rfl rfl ?_ | refine WX.eqlB rfl rfl rfl ?_ | fail)
 rename_i b5
 refine WX.call rfl qP rfl ?_
 rintro _ _ ⟨rfl, h', rfl, iP⟩
 simp only [ca, na]
 repeat' (first | refine runS ?_ | refine gS (fun _ => ?_) (fun _ => ?_) | refine bx rfl (fun _ => ?_) | refine al (fun _ => ?_) | refine lAN (t := 34) a.enc a.x.enc rfl ?_ | refine lAN (t := 37) a.enc a.dp.enc rfl ?_ | refine lAN (t := 43) a.enc a.e.enc rfl ?_ | refine lAN (t := 34) (sD.ch.cells v2) (cfO sD.ch.co).enc rfl ?_ | refine WX.eqlBB rfl rfl rfl ?_ | refine WX.eqlB rfl rfl rfl ?_ | fail)
 refine WX.call rfl qD rfl ?_
 rintro _ _ ⟨rfl, hd', rfl, iD⟩
 simp only [ca, na]
 repeat' (first | refine runS ?_ | refine gS (fun _ => ?_) (fun _ => ?_) | refine bx rfl (fun _ => ?_) | refine al (fun _ => ?_) | refine lAN (t := 34) a.enc a.x.enc rfl ?_ | refine lAN (t := 37) a.enc a.dp.enc rfl ?_ | refine lAN (t := 43) a.enc a.e.enc rfl ?_ | refine lAN (t := 34) (sD.ch.cells v2) (cfO sD.ch.co).enc rfl ?_ | refine WX.eqlBB rfl rfl rfl ?_ | refine WX.eqlB rfl rfl rfl ?_ | fail)
 all_goals exact D.fin1 [h', hd'] _ rfl rfl (ActPost.of iP iD)
set_option maxRecDepth 10000 in
set_option maxHeartbeats 2000000 in
theorem act3_ct (a : La) (hk1 : a.k = 3) : Ct prog 14 [.pointer (some ⟨b, 0, none⟩), .pointer (some ⟨bd, 0, none⟩), .agg (List.toArray a.enc)] [LgBk b cb sP.c0.dc sP.c0.rg sP.c0.nd d w sP.isUp, CsBk cb sP.ch v, hv, WBk w d seg t, hk, DlBk bd cb2 d2 w2 sD.isUp tn2, DsBk cb2 sD.ch v2, hv2, VBk w2 d2 seg2 t2, hk2]
  (fun r H' => ActPost (sP.inj a.e).2 (sD.dinj a.e).2 b bd (T + 243) r H') := by
 have mP : IsLg sP b _ := ⟨cb, d, w, v, hv, seg, t, hk, rfl, aP⟩
 have mD : IsDl sD bd T _ := ⟨cb2, d2, w2, v2, hv2, seg2, t2, tn2, hk2, rfl, aD⟩
 have qP := (Ct.pack (pre' := [LgBk b cb sP.c0.dc sP.c0.rg sP.c0.nd d w sP.isUp, CsBk cb sP.ch v, hv, WBk w d seg t, hk]) (lginj_ct okP mP a.e) (by simp) (fun v H' p => ⟨H', rfl, p⟩))
 have qD := (Ct.pack (pre' := [DlBk bd cb2 d2 w2 sD.isUp tn2, DsBk cb2 sD.ch v2, hv2, VBk w2 d2 seg2 t2, hk2]) (dginj_ct okD mD hT0 hT a.e) (by simp) (fun v H' p => ⟨H', rfl, p⟩))
 refine Ct.mk' func14 rfl rfl rfl (fun g R => ?_)
 try simp only [ca]
 simp only [na]
 repeat' (first | refine runS ?_ | refine gS (fun _ => ?_) (fun _ => ?_) | refine bx rfl (fun _ => ?_) | refine al (fun _ => ?_) | refine lAN (t := 34) a.enc a.x.enc rfl ?_ | refine lAN (t := 37) a.enc a.dp.enc rfl ?_ | refine lAN (t := 43) a.enc a.e.enc rfl ?_ | refine lAN (t := 34) (sD.ch.cells v2) (cfO sD.ch.co).enc rfl ?_ | refine WX.eqlBB rfl rfl rfl ?_ | refine WX.eqlB rfl rfl rfl ?_ | fail)
 rename_i b5
 refine W.mixN 8 [true, true, true, false, true, true, true, false] [AcBk b5 a] Tryz.mix (by kernel_rfl) ?_
 repeat' (first | refine runS ?_ | refine gS (fun _ => ?_) (fun _ => ?_) | refine bx rfl (fun _ => ?_) | refine al (fun _ => ?_) | refine lAN (t := 34) a.enc a.x.enc rfl ?_ | refine lAN (t := 37) a.enc a.dp.enc rfl ?_ | refine lAN (t := 43) a.enc a.e.enc rfl ?_ | refine lAN (t := 34) (sD.ch.cells v2) (cfO sD.ch.co).enc rfl ?_ | refine WX.eqlBB rfl rfl rfl ?_ | refine WX.eqlB rfl rfl rfl ?_ | fail)
 refine WX.call rfl qP rfl ?_
 rintro _ _ ⟨rfl, h', rfl, iP⟩
 simp only [ca, na]
 repeat' (first | refine runS ?_ | refine gS (fun _ => ?_) (fun _ => ?_) | refine bx rfl (fun _ => ?_) | refine al (fun _ => ?_) | refine lAN (t := 34) a.enc a.x.enc rfl ?_ | refine lAN (t := 37) a.enc a.dp.enc rfl ?_ | refine lAN (t := 43) a.enc a.e.enc rfl ?_ | refine lAN (t := 34) (sD.ch.cells v2) (cfO sD.ch.co).enc rfl ?_ | refine WX.eqlBB rfl rfl rfl ?_ | refine WX.eqlB rfl rfl rfl ?_ | fail)
 refine WX.call rfl qD rfl ?_
 rintro _ _ ⟨rfl, hd', rfl, iD⟩
 simp only [ca, na]
 repeat' (first | refine runS ?_ | refine gS (fun _ => ?_) (fun _ => ?_) | refine bx rfl (fun _ => ?_) | refine al (fun _ => ?_) | refine lAN (t := 34) a.enc a.x.enc rfl ?_ | refine lAN (t := 37) a.enc a.dp.enc rfl ?_ | refine lAN (t := 43) a.enc a.e.enc rfl ?_ | refine lAN (t := 34) (sD.ch.cells v2) (cfO sD.ch.co).enc rfl ?_ | refine WX.eqlBB rfl rfl rfl ?_ | refine WX.eqlB rfl rfl rfl ?_ | fail)
 all_goals exact D.fin1 [h', hd'] _ rfl rfl (ActPost.of iP iD)
set_option maxRecDepth 10000 in
set_option maxHeartbeats 2000000 in
theorem act5_ct (a : La) (hk1 : a.k = 5) : Ct prog 14 [.pointer (some ⟨b, 0, none⟩), .pointer (some ⟨bd, 0, none⟩), .agg (List.toArray a.enc)] [LgBk b cb sP.c0.dc sP.c0.rg sP.c0.nd d w sP.isUp, CsBk cb sP.ch v, hv, WBk w d seg t, hk, DlBk bd cb2 d2 w2 sD.isUp tn2, DsBk cb2 sD.ch v2, hv2, VBk w2 d2 seg2 t2, hk2]
  (fun r H' => ActPost sP.sync sD.sync b bd (T + 243) r H') := by
 have mP : IsLg sP b _ := ⟨cb, d, w, v, hv, seg, t, hk, rfl, aP⟩
 have mD : IsDl sD bd T _ := ⟨cb2, d2, w2, v2, hv2, seg2, t2, tn2, hk2, rfl, aD⟩
 have qP := (Ct.pack (pre' := [LgBk b cb sP.c0.dc sP.c0.rg sP.c0.nd d w sP.isUp, CsBk cb sP.ch v, hv, WBk w d seg t, hk]) (lgsync_ct okP mP) (by simp) (fun v H' p => ⟨H', rfl, p⟩))
 have qD := (Ct.pack (pre' := [DlBk bd cb2 d2 w2 sD.isUp tn2, DsBk cb2 sD.ch v2, hv2, VBk w2 d2 seg2 t2, hk2]) (dgsync_ct okD mD hT0 hT) (by simp) (fun v H' p => ⟨H', rfl, p⟩))
 refine Ct.mk' func14 rfl rfl rfl (fun g R => ?_)
 try simp only [ca]
 simp only [na]
 repeat' (first | refine runS ?_ | refine gS (fun _ => ?_) (fun _ => ?_) | refine bx rfl (fun _ => ?_) | refine al (fun _ => ?_) | refine lAN (t := 34) a.enc a.x.enc rfl ?_ | refine lAN (t := 37) a.enc a.dp.enc rfl ?_ | refine lAN (t := 43) a.enc a.e.enc rfl ?_ | refine lAN (t := 34) (sD.ch.cells v2) (cfO sD.ch.co).enc rfl ?_ | refine WX.eqlBB rfl rfl rfl ?_ | refine WX.eqlB rfl rfl rfl ?_ | fail)
 rename_i b5
 refine WX.call rfl qP rfl ?_
 rintro _ _ ⟨rfl, h', rfl, iP⟩
 simp only [ca, na]
 repeat' (first | refine runS ?_ | refine gS (fun _ => ?_) (fun _ => ?_) | refine bx rfl (fun _ => ?_) | refine al (fun _ => ?_) | refine lAN (t := 34) a.enc a.x.enc rfl ?_ | refine lAN (t := 37) a.enc a.dp.enc rfl ?_ | refine lAN (t := 43) a.enc a.e.enc rfl ?_ | refine lAN (t := 34) (sD.ch.cells v2) (cfO sD.ch.co).enc rfl ?_ | refine WX.eqlBB rfl rfl rfl ?_ | refine WX.eqlB rfl rfl rfl ?_ | fail)
 refine WX.call rfl qD rfl ?_
 rintro _ _ ⟨rfl, hd', rfl, iD⟩
 simp only [ca, na]
 repeat' (first | refine runS ?_ | refine gS (fun _ => ?_) (fun _ => ?_) | refine bx rfl (fun _ => ?_) | refine al (fun _ => ?_) | refine lAN (t := 34) a.enc a.x.enc rfl ?_ | refine lAN (t := 37) a.enc a.dp.enc rfl ?_ | refine lAN (t := 43) a.enc a.e.enc rfl ?_ | refine lAN (t := 34) (sD.ch.cells v2) (cfO sD.ch.co).enc rfl ?_ | refine WX.eqlBB rfl rfl rfl ?_ | refine WX.eqlB rfl rfl rfl ?_ | fail)
 all_goals exact D.fin1 [h', hd'] _ rfl rfl (ActPost.of iP iD)
set_option maxRecDepth 10000 in
set_option maxHeartbeats 2000000 in
theorem act7_ct (a : La) (hk1 : a.k = 7) (n1 : -9223372036854775808 ≤ a.n) (n2 : a.n ≤ 9223372036854775807) : Ct prog 14 [.pointer (some ⟨b, 0, none⟩), .pointer (some ⟨bd, 0, none⟩), .agg (List.toArray a.enc)] [LgBk b cb sP.c0.dc sP.c0.rg sP.c0.nd d w sP.isUp, CsBk cb sP.ch v, hv, WBk w d seg t, hk, DlBk bd cb2 d2 w2 sD.isUp tn2, DsBk cb2 sD.ch v2, hv2, VBk w2 d2 seg2 t2, hk2]
  (fun r H' => ActPost (sP.crash a.n) (sD.crash a.n) b bd (T) r H') := by
 have mP : IsLg sP b _ := ⟨cb, d, w, v, hv, seg, t, hk, rfl, aP⟩
 have mD : IsDl sD bd T _ := ⟨cb2, d2, w2, v2, hv2, seg2, t2, tn2, hk2, rfl, aD⟩
 have qP := (Ct.pack (pre' := [LgBk b cb sP.c0.dc sP.c0.rg sP.c0.nd d w sP.isUp, CsBk cb sP.ch v, hv, WBk w d seg t, hk]) (lgcrash_ct okP mP n1 n2) (by simp) (fun v H' p => ⟨H', rfl, p⟩))
 have qD := (Ct.pack (pre' := [DlBk bd cb2 d2 w2 sD.isUp tn2, DsBk cb2 sD.ch v2, hv2, VBk w2 d2 seg2 t2, hk2]) (dgcrash_ct okD mD hT0 hT n1 n2) (by simp) (fun v H' p => ⟨H', rfl, p⟩))
 refine Ct.mk' func14 rfl rfl rfl (fun g R => ?_)
 try simp only [ca]
 simp only [na]
 repeat' (first | refine runS ?_ | refine gS (fun _ => ?_) (fun _ => ?_) | refine bx rfl (fun _ => ?_) | refine al (fun _ => ?_) | refine lAN (t := 34) a.enc a.x.enc rfl ?_ | refine lAN (t := 37) a.enc a.dp.enc rfl ?_ | refine lAN (t := 43) a.enc a.e.enc rfl ?_ | refine lAN (t := 34) (sD.ch.cells v2) (cfO sD.ch.co).enc rfl ?_ | refine WX.eqlBB rfl rfl rfl ?_ | refine WX.eqlB rfl rfl rfl ?_ | fail)
 rename_i b5
 refine WX.call rfl qP rfl ?_
 rintro _ _ ⟨rfl, h', rfl, iP⟩
 simp only [ca, na]
 repeat' (first | refine runS ?_ | refine gS (fun _ => ?_) (fun _ => ?_) | refine bx rfl (fun _ => ?_) | refine al (fun _ => ?_) | refine lAN (t := 34) a.enc a.x.enc rfl ?_ | refine lAN (t := 37) a.enc a.dp.enc rfl ?_ | refine lAN (t := 43) a.enc a.e.enc rfl ?_ | refine lAN (t := 34) (sD.ch.cells v2) (cfO sD.ch.co).enc rfl ?_ | refine WX.eqlBB rfl rfl rfl ?_ | refine WX.eqlB rfl rfl rfl ?_ | fail)
 refine WX.call rfl qD rfl ?_
 rintro _ _ ⟨rfl, hd', rfl, iD⟩
 simp only [ca, na]
 repeat' (first | refine runS ?_ | refine gS (fun _ => ?_) (fun _ => ?_) | refine bx rfl (fun _ => ?_) | refine al (fun _ => ?_) | refine lAN (t := 34) a.enc a.x.enc rfl ?_ | refine lAN (t := 37) a.enc a.dp.enc rfl ?_ | refine lAN (t := 43) a.enc a.e.enc rfl ?_ | refine lAN (t := 34) (sD.ch.cells v2) (cfO sD.ch.co).enc rfl ?_ | refine WX.eqlBB rfl rfl rfl ?_ | refine WX.eqlB rfl rfl rfl ?_ | fail)
 all_goals exact D.fin1 [h', hd'] _ rfl rfl (ActPost.of iP iD)
set_option maxRecDepth 10000 in
set_option maxHeartbeats 2000000 in
theorem act9_ct (a : La) (hk1 : a.k = 9) : Ct prog 14 [.pointer (some ⟨b, 0, none⟩), .pointer (some ⟨bd, 0, none⟩), .agg (List.toArray a.enc)] [LgBk b cb sP.c0.dc sP.c0.rg sP.c0.nd d w sP.isUp, CsBk cb sP.ch v, hv, WBk w d seg t, hk, DlBk bd cb2 d2 w2 sD.isUp tn2, DsBk cb2 sD.ch v2, hv2, VBk w2 d2 seg2 t2, hk2]
  (fun r H' => ActPost (sP.take a.a a.b a.n a.e).2 (sD.dtake a.a a.b a.n a.e).2 b bd (T + 243) r H') := by
 have mP : IsLg sP b _ := ⟨cb, d, w, v, hv, seg, t, hk, rfl, aP⟩
 have mD : IsDl sD bd T _ := ⟨cb2, d2, w2, v2, hv2, seg2, t2, tn2, hk2, rfl, aD⟩
 have qP := (Ct.pack (pre' := [LgBk b cb sP.c0.dc sP.c0.rg sP.c0.nd d w sP.isUp, CsBk cb sP.ch v, hv, WBk w d seg t, hk]) (lgtake_ct okP mP a.a a.b a.n a.e) (by simp) (fun v H' p => ⟨H', rfl, p⟩))
 have qD := (Ct.pack (pre' := [DlBk bd cb2 d2 w2 sD.isUp tn2, DsBk cb2 sD.ch v2, hv2, VBk w2 d2 seg2 t2, hk2]) (dgtake_ct okD mD hT0 hT a.a a.b a.n a.e) (by simp) (fun v H' p => ⟨H', rfl, p⟩))
 refine Ct.mk' func14 rfl rfl rfl (fun g R => ?_)
 try simp only [ca]
 simp only [na]
 repeat' (first | refine runS ?_ | refine gS (fun _ => ?_) (fun _ => ?_) | refine bx rfl (fun _ => ?_) | refine al (fun _ => ?_) | refine lAN (t := 34) a.enc a.x.enc rfl ?_ | refine lAN (t := 37) a.enc a.dp.enc rfl ?_ | refine lAN (t := 43) a.enc a.e.enc rfl ?_ | refine lAN (t := 34) (sD.ch.cells v2) (cfO sD.ch.co).enc rfl ?_ | refine WX.eqlBB rfl rfl rfl ?_ | refine WX.eqlB rfl rfl rfl ?_ | fail)
 rename_i b5
 refine W.mixN 8 (List.replicate 9 true ++ [false] ++ List.replicate 9 true ++ [false]) [AcBk b5 a] Tryz.mix (by kernel_rfl) ?_
 repeat' (first | refine runS ?_ | refine gS (fun _ => ?_) (fun _ => ?_) | refine bx rfl (fun _ => ?_) | refine al (fun _ => ?_) | refine lAN (t := 34) a.enc a.x.enc rfl ?_ | refine lAN (t := 37) a.enc a.dp.enc rfl ?_ | refine lAN (t := 43) a.enc a.e.enc rfl ?_ | refine lAN (t := 34) (sD.ch.cells v2) (cfO sD.ch.co).enc rfl ?_ | refine WX.eqlBB rfl rfl rfl ?_ | refine WX.eqlB rfl rfl rfl ?_ | fail)
 refine WX.call rfl qP rfl ?_
 rintro _ _ ⟨rfl, h', rfl, iP⟩
 simp only [ca, na]
 repeat' (first | refine runS ?_ | refine gS (fun _ => ?_) (fun _ => ?_) | refine bx rfl (fun _ => ?_) | refine al (fun _ => ?_) | refine lAN (t := 34) a.enc a.x.enc rfl ?_ | refine lAN (t := 37) a.enc a.dp.enc rfl ?_ | refine lAN (t := 43) a.enc a.e.enc rfl ?_ | refine lAN (t := 34) (sD.ch.cells v2) (cfO sD.ch.co).enc rfl ?_ | refine WX.eqlBB rfl rfl rfl ?_ | refine WX.eqlB rfl rfl rfl ?_ | fail)
 refine WX.call rfl qD rfl ?_
 rintro _ _ ⟨rfl, hd', rfl, iD⟩
 simp only [ca, na]
 repeat' (first | refine runS ?_ | refine gS (fun _ => ?_) (fun _ => ?_) | refine bx rfl (fun _ => ?_) | refine al (fun _ => ?_) | refine lAN (t := 34) a.enc a.x.enc rfl ?_ | refine lAN (t := 37) a.enc a.dp.enc rfl ?_ | refine lAN (t := 43) a.enc a.e.enc rfl ?_ | refine lAN (t := 34) (sD.ch.cells v2) (cfO sD.ch.co).enc rfl ?_ | refine WX.eqlBB rfl rfl rfl ?_ | refine WX.eqlB rfl rfl rfl ?_ | fail)
 all_goals exact D.fin1 [h', hd'] _ rfl rfl (ActPost.of iP iD)
end
section
variable {sP sD : LSt} {N T : Int} (okP : sP.ok N) (okD : sD.ok N) {b bd : Nat} {cb d w cb2 d2 w2 : Nat} {v v2 : Value} {hv hv2 : Hp} {seg t seg2 t2 tn2 : Int} {hk hk2 : Hp}
 (aP : LgAt sP cb d w v hv seg t hk) (aD : DlAt sD cb2 d2 w2 v2 hv2 seg2 hk2 T) (hT0 : 0 ≤ T) (hT : T ≤ 68719476736)
include okP okD aP aD hT0 hT
set_option maxRecDepth 10000 in
set_option maxHeartbeats 2000000 in
theorem act4_ct (a : La) (hk1 : a.k = 4) : Ct prog 14 [.pointer (some ⟨b, 0, none⟩), .pointer (some ⟨bd, 0, none⟩), .agg (List.toArray a.enc)] [LgBk b cb sP.c0.dc sP.c0.rg sP.c0.nd d w sP.isUp, CsBk cb sP.ch v, hv, WBk w d seg t, hk, DlBk bd cb2 d2 w2 sD.isUp tn2, DsBk cb2 sD.ch v2, hv2, VBk w2 d2 seg2 t2, hk2]
  (fun r H' => ActPost (sP.take (aheadO sD.ch.co sD.ch.nd) (cfO sD.ch.co).ep (sD.ch.len + 1) a.e).2 (sD.dtake (aheadO sD.ch.co sD.ch.nd) (cfO sD.ch.co).ep (sD.ch.len + 1) a.e).2 b bd (T + 243) r H') := by
 have okc := okD.ch
 have hah := ahead_ct okc.co sD.ch.nd
 have hlen := okc.len
 have hln : sD.ch.len = (sD.ch.lg.length : Int) := rfl
 generalize aheadO sD.ch.co sD.ch.nd = ah at hah ⊢
 have hr := aD.sl.rs
 have mP : IsLg sP b _ := ⟨cb, d, w, v, hv, seg, t, hk, rfl, aP⟩
 have mD : IsDl sD bd T _ := ⟨cb2, d2, w2, v2, hv2, seg2, t2, tn2, hk2, rfl, aD⟩
 have qP := (Ct.pack (pre' := [LgBk b cb sP.c0.dc sP.c0.rg sP.c0.nd d w sP.isUp, CsBk cb sP.ch v, hv, WBk w d seg t, hk]) (lgtake_ct okP mP ah (cfO sD.ch.co).ep (sD.ch.len + 1) a.e) (by simp) (fun v H' p => ⟨H', rfl, p⟩))
 have qD := (Ct.pack (pre' := [DlBk bd cb2 d2 w2 sD.isUp tn2, DsBk cb2 sD.ch v2, hv2, VBk w2 d2 seg2 t2, hk2]) (dgtake_ct okD mD hT0 hT ah (cfO sD.ch.co).ep (sD.ch.len + 1) a.e) (by simp) (fun v H' p => ⟨H', rfl, p⟩))
 refine Ct.mk' func14 rfl rfl rfl (fun g R => ?_)
 try simp only [ca]
 simp only [na]
 repeat' (first | refine runS ?_ | refine bx rfl (fun _ => ?_) | fail)
 rename_i b5
 refine W.quiet Tryz.mix (by kernel_rfl) ?_
 repeat' (first | refine runS ?_ | refine lAN (t := 34) (sD.ch.cells v2) (cfO sD.ch.co).enc rfl ?_ | refine WX.callQ rfl hah rfl ?_ | fail)
 refine W.mixN 8 (List.replicate 15 true ++ [false] ++ List.replicate 15 true) [AcBk b5 a, DsBk cb2 sD.ch v2, hv2] Tryz.mix (by kernel_rfl) ?_
 repeat' (first | refine runS ?_ | refine lAN (t := 43) a.enc a.e.enc rfl ?_ | fail)
 refine WX.call rfl qP rfl ?_
 rintro _ _ ⟨rfl, h', rfl, iP⟩
 simp only [ca, na]
 repeat' (first | refine runS ?_ | refine lAN (t := 43) a.enc a.e.enc rfl ?_ | fail)
 refine WX.call rfl qD rfl ?_
 rintro _ _ ⟨rfl, hd', rfl, iD⟩
 simp only [ca, na]
 repeat' (first | refine runS ?_ | refine WX.eqlB rfl rfl rfl ?_ | fail)
 all_goals exact D.fin1 [h', hd'] _ rfl rfl (ActPost.of iP iD)
theorem act0_ct (a : La) (hk1 : ¬ (a.k = 1 ∨ a.k = 2 ∨ a.k = 3 ∨ a.k = 4 ∨ a.k = 5 ∨ a.k = 6 ∨ a.k = 7 ∨ a.k = 8 ∨ a.k = 9)) : Ct prog 14 [.pointer (some ⟨b, 0, none⟩), .pointer (some ⟨bd, 0, none⟩), .agg (List.toArray a.enc)] [LgBk b cb sP.c0.dc sP.c0.rg sP.c0.nd d w sP.isUp, CsBk cb sP.ch v, hv, WBk w d seg t, hk, DlBk bd cb2 d2 w2 sD.isUp tn2, DsBk cb2 sD.ch v2, hv2, VBk w2 d2 seg2 t2, hk2]
  (fun r H' => ActPost sP sD b bd T r H') := by
 have _ := okP; have _ := okD; have _ := hT0; have _ := hT; have mP : IsLg sP b _ := ⟨cb, d, w, v, hv, seg, t, hk, rfl, aP⟩
 have mD : IsDl sD bd T _ := ⟨cb2, d2, w2, v2, hv2, seg2, t2, tn2, hk2, rfl, aD⟩
 simp only [not_or] at hk1
 obtain ⟨k1, k2, k3, k4, k5, k6, k7, k8, k9⟩ := hk1
 refine Ct.mk' func14 rfl rfl rfl (fun g R => ?_)
 try simp only [ca]
 simp only [na]
 repeat' (first | refine runS ?_ | refine bx rfl (fun _ => ?_) | fail)
 exact D.fin1 [LgBk b cb sP.c0.dc sP.c0.rg sP.c0.nd d w sP.isUp, CsBk cb sP.ch v, hv, WBk w d seg t, hk, DlBk bd cb2 d2 w2 sD.isUp tn2, DsBk cb2 sD.ch v2, hv2, VBk w2 d2 seg2 t2, hk2] _ rfl rfl ⟨_, _, _, rfl, by simp, mP, mD⟩
set_option maxRecDepth 10000 in
set_option maxHeartbeats 2000000 in
theorem act8_ct {sP' sD' : LSt} (gP : ∀ {b : Nat} {h : Hp}, IsLg sP b h → Ct prog 15 [.pointer (some ⟨b, 0, none⟩)] [h] (fun r H' => r = .tuple #[] ∧ ∃ h', H' = [h'] ∧ IsLg sP' b h'))
  (gD : ∀ {b : Nat} {h : Hp} {T : Int}, IsDl sD b T h → Ct prog 60 [.pointer (some ⟨b, 0, none⟩)] [h] (fun r H' => r = .tuple #[] ∧ ∃ h', H' = [h'] ∧ IsDl sD' b T h')) (a : La) (hk1 : a.k = 8) :
  Ct prog 14 [.pointer (some ⟨b, 0, none⟩), .pointer (some ⟨bd, 0, none⟩), .agg (List.toArray a.enc)] [LgBk b cb sP.c0.dc sP.c0.rg sP.c0.nd d w sP.isUp, CsBk cb sP.ch v, hv, WBk w d seg t, hk, DlBk bd cb2 d2 w2 sD.isUp tn2, DsBk cb2 sD.ch v2, hv2, VBk w2 d2 seg2 t2, hk2] (fun r H' => ActPost sP' sD' b bd T r H') := by
 have _ := okP; have _ := okD; have _ := hT0; have _ := hT; have mP : IsLg sP b _ := ⟨cb, d, w, v, hv, seg, t, hk, rfl, aP⟩
 have mD : IsDl sD bd T _ := ⟨cb2, d2, w2, v2, hv2, seg2, t2, tn2, hk2, rfl, aD⟩
 have qP := (Ct.pack (pre' := [LgBk b cb sP.c0.dc sP.c0.rg sP.c0.nd d w sP.isUp, CsBk cb sP.ch v, hv, WBk w d seg t, hk]) (gP mP) (by simp) (fun v H' p => ⟨H', rfl, p⟩))
 have qD := (Ct.pack (pre' := [DlBk bd cb2 d2 w2 sD.isUp tn2, DsBk cb2 sD.ch v2, hv2, VBk w2 d2 seg2 t2, hk2]) (gD mD) (by simp) (fun v H' p => ⟨H', rfl, p⟩))
 refine Ct.mk' func14 rfl rfl rfl (fun g R => ?_)
 try simp only [ca]
 simp only [na]
 repeat' (first | refine runS ?_ | refine bx rfl (fun _ => ?_) | fail)
 rename_i b5
 refine WX.call rfl qP rfl ?_
 rintro _ _ ⟨rfl, h', rfl, iP⟩
 simp only [ca, na]
 try refine runS ?_
 refine WX.call rfl qD rfl ?_
 rintro _ _ ⟨rfl, hd', rfl, iD⟩
 simp only [ca, na]
 try refine runS ?_
 all_goals exact D.fin1 [h', hd'] _ rfl rfl (ActPost.of iP iD)
set_option maxRecDepth 10000 in
set_option maxHeartbeats 2000000 in
theorem act6_ct (a : La) (hk1 : a.k = 6) : Ct prog 14 [.pointer (some ⟨b, 0, none⟩), .pointer (some ⟨bd, 0, none⟩), .agg (List.toArray a.enc)] [LgBk b cb sP.c0.dc sP.c0.rg sP.c0.nd d w sP.isUp, CsBk cb sP.ch v, hv, WBk w d seg t, hk, DlBk bd cb2 d2 w2 sD.isUp tn2, DsBk cb2 sD.ch v2, hv2, VBk w2 d2 seg2 t2, hk2]
  (fun r H' => ActPost (sP.heard (behindO sD.ch.co sD.ch.nd) (cfO sD.ch.co).ep sD.ch.du sD.ch.du).2 (sD.heard (behindO sD.ch.co sD.ch.nd) (cfO sD.ch.co).ep sD.ch.du sD.ch.du).2 b bd T r H') := by
 have _ := hT0; have _ := hT; have okc := okD.ch
 have hbh := behind_ct okc.co sD.ch.nd
 generalize behindO sD.ch.co sD.ch.nd = bh at hbh ⊢
 have iP := IsLg.heard (b := b) aP bh (cfO sD.ch.co).ep sD.ch.du sD.ch.du
 have iD := IsDl.heard (b := bd) (t := t2) (tn := tn2) aD bh (cfO sD.ch.co).ep sD.ch.du sD.ch.du
 have qP := cheard_ct okP.ch cb v bh (cfO sD.ch.co).ep sD.ch.du sD.ch.du
 have qD := dcheard_ct okc cb2 v2 bh (cfO sD.ch.co).ep sD.ch.du sD.ch.du
 refine Ct.mk' func14 rfl rfl rfl (fun g R => ?_)
 try simp only [ca]
 simp only [na]
 repeat' (first | refine runS ?_ | refine bx rfl (fun _ => ?_) | fail)
 rename_i b5
 refine W.quiet Tryz.mix (by kernel_rfl) ?_
 repeat' (first | refine runS ?_ | refine lAN (t := 34) (sD.ch.cells v2) (cfO sD.ch.co).enc rfl ?_ | refine WX.callQ rfl hbh rfl ?_ | fail)
 refine W.mixN 8 (List.replicate 18 true ++ [false] ++ List.replicate 15 true) [AcBk b5 a, LgBk b cb sP.c0.dc sP.c0.rg sP.c0.nd d w sP.isUp, DsBk cb2 sD.ch v2] Tryz.mix (by kernel_rfl) ?_
 try refine runS ?_
 refine WX.call rfl qP rfl ?_
 rintro _ _ ⟨rfl, rfl⟩
 simp only [ca, na]
 try refine runS ?_
 refine WX.call rfl qD rfl ?_
 rintro _ _ ⟨rfl, rfl⟩
 simp only [ca, na]
 repeat' (first | refine runS ?_ | refine WX.eqlB rfl rfl rfl ?_ | fail)
 all_goals exact D.fin1 [LgBk b cb sP.c0.dc sP.c0.rg sP.c0.nd d w sP.isUp, CsBk cb (sP.ch.heard bh (cfO sD.ch.co).ep sD.ch.du sD.ch.du).2 v, hv, WBk w d seg t, hk, DlBk bd cb2 d2 w2 sD.isUp tn2, DsBk cb2 (sD.ch.heard bh (cfO sD.ch.co).ep sD.ch.du sD.ch.du).2 v2, hv2, VBk w2 d2 seg2 t2, hk2] _ rfl rfl ⟨_, _, _, rfl, by simp, iP, iD⟩
end
def ActsTo (sP sD sP' sD' : LSt) (a : La) (T : Int) : Prop := ∀ {b bd : Nat} {h hd : Hp} {T0 : Int}, 0 ≤ T0 → T0 ≤ T → IsLg sP b h → IsDl sD bd T0 hd →
 Ct prog 14 [.pointer (some ⟨b, 0, none⟩), .pointer (some ⟨bd, 0, none⟩), .agg (List.toArray a.enc)] [h, hd] (fun v H' => ∃ bo h' hd', v = .bool bo ∧ H' = [h', hd'] ∧ IsLg sP' b h' ∧ IsDl sD' bd (T0 + 486) hd')
theorem ActsTo.of {sP sD sP' sD' : LSt} {a : La} {T k : Int} (hk : k ≤ 486) (h : ∀ {b bd : Nat} {cb d w cb2 d2 w2 : Nat} {v v2 : Value} {hv hv2 : Hp} {seg t seg2 t2 tn2 : Int} {hk hk2 : Hp} {T0 : Int}, 0 ≤ T0 → T0 ≤ T → LgAt sP cb d w v hv seg t hk → DlAt sD cb2 d2 w2 v2 hv2 seg2 hk2 T0 →
  Ct prog 14 [.pointer (some ⟨b, 0, none⟩), .pointer (some ⟨bd, 0, none⟩), .agg (List.toArray a.enc)] [LgBk b cb sP.c0.dc sP.c0.rg sP.c0.nd d w sP.isUp, CsBk cb sP.ch v, hv, WBk w d seg t, hk, DlBk bd cb2 d2 w2 sD.isUp tn2, DsBk cb2 sD.ch v2, hv2, VBk w2 d2 seg2 t2, hk2] (fun r H' => ActPost sP' sD' b bd (T0 + k) r H')) : ActsTo sP sD sP' sD' a T := by
 intro b bd h0 hd0 T0 hT0 hT mP mD
 obtain ⟨cb, d, w, v, hv, seg, t, hk, rfl, aP⟩ := mP
 obtain ⟨cb2, d2, w2, v2, hv2, seg2, t2, tn2, hk2, rfl, aD⟩ := mD
 exact (h (t2 := t2) (tn2 := tn2) hT0 hT aP aD).pack (by simp) fun r H' ⟨bo, h', hd', e1, e2, e3, e4⟩ => ⟨[h', hd'], by simp [e2], bo, h', hd', e1, rfl, e3, e4.mono (by omega)⟩
theorem act_step {sP sD : LSt} {N T : Int} (okP : sP.ok N) (okD : sD.ok N) (hN : N + 2 < 1099511627776) (hT : T ≤ 68719476736) (a : La) (n1 : -9223372036854775808 ≤ a.n) (n2 : a.n ≤ 9223372036854775807) :
  ∃ sP' sD', sP'.ok (N + 2) ∧ sD'.ok (N + 2) ∧ ActsTo sP sD sP' sD' a T := by
 by_cases k1 : a.k = 1
 ·exact ⟨_, _, okP.enter hN a.x, okD.denter hN a.x, ActsTo.of (k := 486) (by omega) fun h0 h1 aP aD => act1_ct okP okD aP aD h0 (by omega) a k1⟩
 by_cases k2 : a.k = 2
 ·exact ⟨_, _, (okP.put (by omega) a.key a.val a.dead a.dp a.a a.b a.n).mono (by omega), (okD.dput (by omega) a.key a.val a.dead a.dp a.a a.b a.n).mono (by omega), ActsTo.of (k := 243) (by omega) fun h0 h1 aP aD => act2_ct okP okD aP aD h0 (by omega) a k2⟩
 by_cases k3 : a.k = 3
 ·exact ⟨_, _, (okP.inj (by omega) a.e).mono (by omega), (okD.dinj (by omega) a.e).mono (by omega), ActsTo.of (k := 243) (by omega) fun h0 h1 aP aD => act3_ct okP okD aP aD h0 (by omega) a k3⟩
 by_cases k4 : a.k = 4
 ·exact ⟨_, _, (okP.take (by omega) _ _ _ a.e).mono (by omega), (okD.dtake (by omega) _ _ _ a.e).mono (by omega), ActsTo.of (k := 243) (by omega) fun h0 h1 aP aD => act4_ct okP okD aP aD h0 (by omega) a k4⟩
 by_cases k5 : a.k = 5
 ·exact ⟨_, _, okP.sync.mono (by omega), okD.sync.mono (by omega), ActsTo.of (k := 243) (by omega) fun h0 h1 aP aD => act5_ct okP okD aP aD h0 (by omega) a k5⟩
 by_cases k6 : a.k = 6
 ·exact ⟨_, _, (okP.heard _ _ _ _).mono (by omega), (okD.heard _ _ _ _).mono (by omega), ActsTo.of (k := 0) (by omega) fun h0 h1 aP aD => by rw [Int.add_zero]; exact act6_ct okP okD aP aD h0 (by omega) a k6⟩
 by_cases k7 : a.k = 7
 ·exact ⟨_, _, (okP.crash a.n).mono (by omega), (okD.crash a.n).mono (by omega), ActsTo.of (k := 0) (by omega) fun h0 h1 aP aD => by rw [Int.add_zero]; exact act7_ct okP okD aP aD h0 (by omega) a k7 n1 n2⟩
 by_cases k8 : a.k = 8
 ·obtain ⟨sP', p1, _, gP⟩ := lgstart okP
  obtain ⟨sD', p2, _, gD⟩ := dgstart okD
  exact ⟨sP', sD', p1.mono (by omega), p2.mono (by omega), ActsTo.of (k := 0) (by omega) fun h0 h1 aP aD => by rw [Int.add_zero]; exact act8_ct okP okD aP aD h0 (by omega) gP gD a k8⟩
 by_cases k9 : a.k = 9
 ·exact ⟨_, _, (okP.take (by omega) _ _ _ a.e).mono (by omega), (okD.dtake (by omega) _ _ _ a.e).mono (by omega), ActsTo.of (k := 243) (by omega) fun h0 h1 aP aD => act9_ct okP okD aP aD h0 (by omega) a k9⟩
 exact ⟨sP, sD, okP.mono (by omega), okD.mono (by omega), ActsTo.of (k := 0) (by omega) fun h0 h1 aP aD => by rw [Int.add_zero]; exact act0_ct okP okD aP aD h0 (by omega) a (by simp only [not_or]; exact ⟨k1, k2, k3, k4, k5, k6, k7, k8, k9⟩)⟩
end Go.Proofs.YtejfahjgfedliaaGreat

namespace Go.Sl
open Go List
section
variable {g : World} {P : Program} {ops : Array Oper} {Q : Exit → Act → World → Prop} {n : Nat} {rest : List Oper} {L : Fm} {H : HH} {q : Bool}
variable {d : Nat} {ty : TypeId} {pos : String} {af : Array Edge}
theorem bdZ {t e m k : Nat} {ag : Bool} (zs : List Value) [hz : TZ P t zs] [hu : TU P t (.array m e)] [hl : TL P e k ag] (kk : WX q g P ops Q n rest ((d, .agg zs.toArray) :: L) H) (hd : Nat.blt d n = true := by exact rfl) :
  WX q g P ops Q n (⟨some d, .build t #[], ty, pos, af, none⟩ :: rest) L H :=
 WX.val (fun a ha w hw => by
  obtain ⟨i, z', g1, g2, g3⟩ := hz.h
  have hh := hl.s
  cases hi : P.info? e with
  | none => simp [hi] at hh
  | some ie =>
   have hb : P.built t [] = some zs.toArray := by
    simp only [Program.built, g1, g2, hu.h, hi, Instr.fill, g3]
   have := run_build (P := P) w t #[] zs.toArray hb
   simp only [execOp, Sem.run_bind]
   simp only [map_toArray, map_nil, Array.map_empty]
   rw [this]; rfl) hd kk
theorem W.cutQ {α : Type} {x y : Code} (I : α → Prop) (L' : α → Fm) (H' : α → HH) (h1 : W g P x (Exit.then (fun a w => ∃ i, I i ∧ At g n (L' i) (H' i) a w) Q) n L H) (h2 : ∀ i, I i → W g P y Q n (L' i) (H' i)) : W g P x (Exit.then (y.wp P Q) Q) n L H :=
 .mk fun a w ha hw => wp_mono (h1.run a w ha hw) (then_mono fun a w ⟨i, hi, h3, h4⟩ => (h2 i hi).run a w h3 h4)
theorem D.atQ {α : Type} {I : α → Prop} {L' : α → Fm} {H' : α → HH} (i : α) (hi : I i) (f : Fsub L (L' i)) (s : Hsub H (H' i)) : D g (Exit.then (fun a w => ∃ i, I i ∧ At g n (L' i) (H' i) a w) Q) .normal n L H := .mk fun _ _ ha hw => ⟨i, hi, ha.sub f, s.on hw⟩
end
section
variable {P : Program} {md : Region.Mode} {C : World → Prop}
def ancOf (md : Region.Mode) (acc : List Nat) (o : Oper) : Nat := o.after.toList.foldl (fun m e => if Region.binds md e = true then m ||| 2 ^ e.on ||| acc.getD e.on 0 else m) 0
def ancs (md : Region.Mode) (ops : List Oper) : List Nat := ops.foldl (fun acc o => acc ++ [ancOf md acc o]) []
theorem anc_bits {acc : List Nat} {i : Nat} : ∀ (es : List Edge) (m : Nat), (es.foldl (fun m e => if Region.binds md e = true then m ||| 2 ^ e.on ||| acc.getD e.on 0 else m) m).testBit i = true →
  m.testBit i = true ∨ ∃ e ∈ es, Region.binds md e = true ∧ (e.on = i ∨ (acc.getD e.on 0).testBit i = true)
 | [], m, h => .inl h
 | e :: t, m, h => by
  rw [foldl_cons] at h
  rcases anc_bits t _ h with h | ⟨x, hx, h1, h2⟩
  ·by_cases hb : Region.binds md e = true
   ·rw [if_pos hb, Nat.testBit_or, Nat.testBit_or, Bool.or_eq_true, Bool.or_eq_true, Nat.testBit_two_pow] at h
    rcases h with (h | h) | h
    ·exact .inl h
    ·exact .inr ⟨e, mem_cons_self .., hb, .inl (of_decide_eq_true h)⟩
    ·exact .inr ⟨e, mem_cons_self .., hb, .inr h⟩
   ·rw [if_neg hb] at h; exact .inl h
  ·exact .inr ⟨x, mem_cons_of_mem _ hx, h1, h2⟩
theorem anc_good (ops : List Oper) : ∀ (post pre : List Oper) (acc : List Nat), ops = pre ++ post → acc.length = pre.length → (∀ j i, (acc.getD j 0).testBit i = true → ∃ f, waits md ops.toArray f j i = true) →
  ∀ j i, ((post.foldl (fun acc o => acc ++ [ancOf md acc o]) acc).getD j 0).testBit i = true → ∃ f, waits md ops.toArray f j i = true
 | [], pre, acc, _, _, hg => hg
 | o :: t, pre, acc, he, hl, hg => by
  rw [foldl_cons]
  refine anc_good ops t (pre ++ [o]) _ (by rw [he]; simp) (by simp [hl]) fun j i h => ?_
  rcases Nat.lt_trichotomy j acc.length with hj | hj | hj
  ·rw [getD_eq_getElem?_getD, List.getElem?_append_left hj, ← getD_eq_getElem?_getD] at h
   exact hg j i h
  ·subst hj
   rw [getD_eq_getElem?_getD, List.getElem?_concat_length, Option.getD_some] at h
   have ho : ops.toArray[acc.length]? = some o := by rw [he, hl]; simp
   rcases anc_bits _ _ h with h | ⟨e, hx, h1, h2⟩
   ·rw [Nat.zero_testBit] at h; cases h
   ·rcases h2 with h2 | h2
    ·refine ⟨1, ?_⟩
     simp only [waits, ho]
     rw [Array.any_eq_true']
     exact ⟨e, by simpa using hx, by simp [h1, h2]⟩
    ·obtain ⟨f, hf⟩ := hg _ _ h2
     refine ⟨f + 1, ?_⟩
     simp only [waits, ho]
     rw [Array.any_eq_true']
     exact ⟨e, by simpa using hx, by simp [h1, hf]⟩
  ·rw [getD_eq_getElem?_getD, List.getElem?_eq_none (by simp; omega), Option.getD_none, Nat.zero_testBit] at h
   cases h
theorem ancs_good (ops : List Oper) {j i : Nat} (h : ((ancs md ops).getD j 0).testBit i = true) : ∃ f, waits md ops.toArray f j i = true :=
 anc_good ops ops [] [] rfl rfl (fun j i h => by rw [show ([] : List Nat).getD j 0 = 0 by simp, Nat.zero_testBit] at h; cases h) j i h
def mixT (md : Region.Mode) (ops : List Oper) (ms : List Bool) (as_ : List Nat) : Bool :=
 Region.noSelect ops.toArray && decide (ms.length ≤ ops.length) &&
 ((List.range ms.length).all fun j => ms.getD j true || (List.range j).all fun i => ms.getD i true || (as_.getD j 0).testBit i) &&
 ((List.range ops.length).all fun t => decide (t < ms.length) || (List.range ms.length).all fun i => (as_.getD t 0).testBit i) &&
 Region.lexHead md ops.toArray (ops.length - ms.length) ms.length 0 (Array.replicate ops.length false)
theorem mixT_ok {ops : List Oper} {ms : List Bool} (h : mixT md ops ms (ancs md ops) = true) : MixOk md ops.toArray (fun i => ms.getD i true) ms.length ∧ ms.length ≤ ops.toArray.size ∧ Region.lexHead md ops.toArray (ops.toArray.size - ms.length) ms.length 0 (Array.replicate ops.toArray.size false) = true := by
 simp only [mixT, Bool.and_eq_true, decide_eq_true_eq] at h
 obtain ⟨⟨⟨⟨h1, h2⟩, h3⟩, h4⟩, h5⟩ := h
 refine ⟨⟨Region.noSelect_spec h1, fun i j hij hj hi hj' => ?_, fun i t hi ht hts => ?_⟩, by simpa using h2, by simpa using h5⟩
 ·have := all_eq_true.1 h3 j (mem_range.2 hj)
  simp only [hj', Bool.false_or] at this
  have := all_eq_true.1 this i (mem_range.2 hij)
  simp only [hi, Bool.false_or] at this
  exact ancs_good ops this
 ·have := all_eq_true.1 h4 t (mem_range.2 (by simpa using hts))
  simp only [Bool.or_eq_true, decide_eq_true_eq] at this
  rcases this with h | h
  ·omega
  ·exact ancs_good ops (all_eq_true.1 h i (mem_range.2 hi))
theorem wp_region_mixT {id : Nat} {Q : Exit → Act → World → Prop} {a : Act} {w : World} {l : List Oper} (ms : List Bool) (hm : P.follows .mixedOrders = true) (hB : mixT .any l ms (ancs .any l) = true) (hC : C w.drew)
  (h : lexM P l.toArray C Q (l.drop ms.length) (ms.zip l) a w.drew) : (Code.region id l.toArray true).wp P Q a w := by
 obtain ⟨mo, hle, hlex⟩ := mixT_ok hB
 have hle' : ms.length ≤ l.length := by simpa using hle
 have hzl : (ms.zip l).length = ms.length := by rw [length_zip]; omega
 refine wp_region_any hm ?_
 have H := AM_lex (P := P) (C := C) (md := .any) (gg := l.toArray.size - ms.length) (Q := Q) (tail := l.drop ms.length) mo (ms.zip l) 0 (Array.replicate l.toArray.size false) a w.drew
  (fun j x hx => by
   rw [List.getElem?_zip_eq_some] at hx
   obtain ⟨x1, x2⟩ := hx
   simp [x1, x2]) (by rw [Nat.zero_add]; exact hzl) (fun j oj _ hl => by rw [getD_replicate_false] at hl; cases hl) (fun i hi => absurd hi (by omega)) (by rw [hzl]; exact hlex) hC h
 have := AM.any (Q := Q) (gg := l.toArray.size - ms.length) (fun listed a' w' hL => by
  have := wpAny_of_seq (md := .any) (Q' := Q) (l.drop ms.length) ms.length listed a' w' (fun j => by simp [List.getElem?_drop]) (by rw [length_drop]; simpa using hL.1) hL.2
  simpa using this) _ _ _ _ H
 rw [hzl, show ms.length + (l.toArray.size - ms.length) = l.toArray.size by omega] at this
 exact this
theorem W.mixT {g : World} {Q : Exit → Act → World → Prop} {n : Nat} {L : Fm} {H : HH} {id : Nat} {l : List Oper} (ms : List Bool) (Hc : HH) {r : HH} [k : Picks Hc H r] (hm : P.follows .mixedOrders = true) (hB : Go.Sl.mixT .any l ms (ancs .any l) = true) (h : WM g P l.toArray Q n Hc (l.drop ms.length) (ms.zip l) L H) :
  W g P (.region id l.toArray true) Q n L H := .mk fun a w ha hw =>
 have hd : on g H.flatten w.drew := hw.heap rfl ⟨rfl, rfl, rfl, Nat.le_refl _⟩
 wp_region_mixT (C := on g Hc.flatten) ms hm hB ((Hsub.of_picks k).on hd) (h.run a _ ha hd)
end
end Go.Sl

namespace Go.Proofs.YtejfahjgfedliaaGreat
open Go Go.Sl Go.Proofs.Tryz List
theorem selfC {ks : List CK} {xs : List Value} (h : cksB ks xs = true) : cellsEq ks xs xs = some true := by
 obtain ⟨b, e, i⟩ := cellsEq_iff h h
 rw [e, i.2 rfl]
theorem entries_ct {xs : List Ent} {u v : Value} {hu hv : Hp} (hx : Rs xs u hu) (hy : Rs xs v hv) (hl : xs.length ≤ 1000000) :
  Ct prog 28 [u, v] [hu, hv] (fun r H' => r = .bool true ∧ H' = [hu, hv]) := by
 refine Ct.mk' func28 rfl rfl rfl (fun g R => ?_)
 try simp only [ca]
 simp only [na]
 try refine runS ?_
 refine W.loop (α := Nat) (fun i => i ≤ xs.length) (fun i => [(0, u), (1, v), (5, .int .i64 (i : Int))]) (fun _ => [hu, hv, R]) (fun i => xs.length - i) 0 (Nat.zero_le _) (by repeat (first | exact Fsub.nil | refine Fsub.cons rfl ?_)) (Hsub.of_picks inferInstance) ?_
 intro i hi
 by_cases hlt : i < xs.length
 ·obtain ⟨x, hxi⟩ : ∃ x, xs[i]? = some x := ⟨_, List.getElem?_eq_getElem hlt⟩
  have hcmp : cellsEq kEnt x.enc x.enc = some true := selfC rfl
  try refine runS ?_
  refine W.quiet Tryz.mix (by kernel_rfl) ?_
  repeat' (first | refine runS ?_ | refine WX.loadEW rfl hx hxi rfl rfl ?_ | refine WX.loadEW rfl hy hxi rfl rfl ?_ | refine WX.neqA rfl rfl hcmp rfl ?_ | fail)
  exact D.rd (i + 1) (by omega) (by omega)
 ·try refine runS ?_
  exact D.fin1 [hu, hv] _ rfl rfl ⟨rfl, rfl⟩
theorem prefix_ct {xs ys : List Ent} {u v : Value} {hu hv : Hp} (hx : Rs xs u hu) (hy : Rs ys v hv) (hp : xs = ys.take xs.length) (hl : ys.length ≤ 1000000) :
  Ct prog 30 [u, v] [hu, hv] (fun r H' => r = .bool true ∧ H' = [hu, hv]) := by
 have hle : xs.length ≤ ys.length := by
  have := congrArg List.length hp
  rw [length_take] at this; omega
 obtain ⟨vp, vc, rfl⟩ := hy.len
 have hy2 := hy.take (m := xs.length) hle
 rw [← hp] at hy2
 have hen := entries_ct hx hy2 (by omega)
 refine Ct.mk' func30 rfl rfl rfl (fun g R => ?_)
 try simp only [ca]
 simp only [na]
 repeat' (first | refine runS ?_ | refine WX.callQ rfl hen rfl ?_ | fail)
 exact D.fin1 [hu, hv] _ rfl rfl ⟨rfl, rfl⟩
def La.size (a : La) : Nat := a.key.size + a.val.size + a.e.key.size + a.e.val.size
set_option maxHeartbeats 2000000 in
theorem lmuch_ct {acts : List La} {v : Value} {h : Hp} (hr : Rs acts v h) (hlen : acts.length ≤ 1099511627776) (hz : ∀ a ∈ acts, a.key.size ≤ 562949953421312 ∧ a.val.size ≤ 562949953421312 ∧ a.e.key.size ≤ 562949953421312 ∧ a.e.val.size ≤ 562949953421312) :
  Ct prog 11 [v] [h] (fun r H' => ∃ b, r = .bool b ∧ H' = [h] ∧ (b = false → acts.length ≤ 300)) := by
 refine Ct.mk' func11 rfl rfl rfl (fun g R => ?_)
 try simp only [ca]
 simp only [na]
 try refine runS ?_
 refine W.loop (α := Nat × Nat) (fun x => x.1 ≤ acts.length ∧ acts.length ≤ x.2 ∧ x.2 ≤ 1125899906842624) (fun x => [(0, v), (3, .int .i64 (x.2 : Int)), (4, .int .i64 (x.1 : Int))]) (fun _ => [h, R]) (fun x => acts.length - x.1) (0, acts.length) ⟨Nat.zero_le _, Nat.le_refl _, by simp only []; omega⟩ (by repeat (first | exact Fsub.nil | refine Fsub.cons rfl ?_)) (Hsub.of_picks inferInstance) ?_
 rintro ⟨i, n⟩ ⟨hi, hn0, hn⟩
 simp only [] at hi hn hn0 ⊢
 by_cases hlt : i < acts.length
 ·by_cases h4 : n ≤ 300
  ·obtain ⟨a, ha⟩ : ∃ a, acts[i]? = some a := ⟨_, List.getElem?_eq_getElem hlt⟩
   obtain ⟨z1, z2, z3, z4⟩ := hz a (mem_of_getElem? ha)
   have hq : a.size / 40 ≤ 56294995342132 := by unfold La.size; omega
   try refine runS ?_
   refine W.quiet Tryz.mix (by kernel_rfl) ?_
   repeat' (first | refine runS ?_ | (refine I.bin ?_; refine WX.quoN (a := a.size) (b := 40) rfl rfl (by unfold La.size; push_cast; rfl) rfl (by decide) (by unfold La.size; omega) rfl ?_) | fail)
   exact D.rd (i + 1, n + a.size / 40) ⟨by simp only []; omega, by simp only []; omega, by simp only []; omega⟩ (by simp only []; omega)
  ·try refine runS ?_
   exact D.fin1 [h] _ rfl rfl ⟨_, rfl, rfl, fun h => by have := of_decide_eq_false h; omega⟩
 ·obtain rfl : i = acts.length := by omega
  try refine runS ?_
  exact D.fin1 [h] _ rfl rfl ⟨_, rfl, rfl, fun h => by have := of_decide_eq_false h; omega⟩
theorem ps_sum (f : Lf) : ((f.ps).map (·.n)).sum = ((bytes (f.rs.drop f.k)).length : Int) := by
 unfold Lf.ps
 generalize f.rs.drop f.k = rs
 induction rs with
 | nil => rfl
 | cons r t ih => rw [map_cons, map_cons, sum_cons, ih, bytes_cons, length_append]; push_cast; rfl
theorem looseN_eq (l : List Lf) : (dk l).looseN = (looseB l : Int) := by
 unfold DkS.looseN dk looseB
 simp only []
 induction l with
 | nil => rfl
 | cons f t ih => rw [map_cons, flatten_cons, map_append, sum_append, ps_sum, ih, map_cons, sum_cons]; push_cast; rfl
theorem lloose_ct {l : List Lf} (ok : LOk l) (b cb : Nat) (dc rg nd : Int) (w : Nat) {d : Nat} {hd : Hp} (hdk : IsDk (dk l) d hd) :
  Ct prog 29 [.pointer (some ⟨b, 0, none⟩)] [LgBk b cb dc rg nd d w true, hd] (fun r H' => r = .int .i64 (looseB l : Int) ∧ H' = [LgBk b cb dc rg nd d w true, hd]) := by
 have hpos : ∀ p ∈ (dk l).loose, 0 ≤ p.n := by
  intro p hp
  exact (dk_wf ok).1 p hp |>.1
 have hsum := loose_sum (l := l)
 have hu := ok.used
 have hlo := loose_ct hdk ok.loose (fun k _ => by
  have := psum (k := k) hpos
  omega)
 rw [looseN_eq] at hlo
 refine Ct.mk' func29 rfl rfl rfl (fun g R => ?_)
 try simp only [ca]
 simp only [na]
 repeat' (first | refine runS ?_ | refine WX.callQ rfl hlo rfl ?_ | fail)
 exact D.fin1 [LgBk b cb dc rg nd d w true, hd] _ rfl rfl ⟨rfl, rfl⟩
end Go.Proofs.YtejfahjgfedliaaGreat

namespace Go.Proofs.YtejfahjgfedliaaGreat
open Go Go.Sl List
theorem bytes_few {rs : List Rec} (hg : ∀ r ∈ rs, r.code = 0) : (bytes rs).length ≤ 300 * rs.length := by
 induction rs with
 | nil => exact Nat.zero_le _
 | cons r t ih =>
  have h1 := (Rec.good (hg r (mem_cons_self ..))).fr_le
  have h2 := ih fun x hx => hg x (mem_cons_of_mem _ hx)
  rw [bytes_cons, length_append, length_cons]; omega
theorem room_one {n : Int} {rs : List Rec} {k : Nat} (hg : ∀ r ∈ rs, r.code = 0) (hl : rs.length ≤ 10) {m : Int} (m0 : 0 ≤ m) (m1 : m ≤ 2) : roomB [⟨n, rs, k⟩] m = true := by
 have h := bytes_few hg
 unfold roomB
 rw [decide_eq_true_iff, dk_used]
 simp only [map_cons, map_nil, sum_cons, sum_nil, length_cons, length_nil]
 omega
theorem ladd_few {n : Int} {rs : List Rec} {k : Nat} {r : Rec} (hg : ∀ r ∈ rs, r.code = 0) (hl : rs.length ≤ 10) (hc : r.code = 0) : (ladd1 [⟨n, rs, k⟩] r).1 = [⟨n, rs ++ [r], k⟩] := by
 have h := bytes_few hg
 have hle := (Rec.good hc).fr_le
 unfold ladd1
 rw [if_neg (by simpa using hc)]
 simp only [List.getLast?_singleton, dropLast_singleton]
 rw [if_neg (by omega), if_neg (by rw [dk_used]; simp only [map_cons, map_nil, sum_cons, sum_nil]; omega)]
 rfl
def abX0 : Cfg := (firstCh 1).cfg
def abK : ByteArray := ⟨#[107]⟩
def abV : ByteArray := ⟨#[118]⟩
def abW : ByteArray := ⟨#[119]⟩
def abC1 : CS := ⟨0, 0, 0, some (firstCh 1), 1, 0, [], 0, 0, 0, 0, true⟩
def abE1 : Ent := ⟨0, 0, 1, 1, 0, 0, abK, abV, false, V9.z, 0, 1⟩
def abC2 : CS := ⟨0, 0, 0, some (firstCh 1), 1, 0, [abE1], 0, 0, 0, 0, true⟩
def abC3 : CS := ⟨0, 0, 0, some (firstCh 1), 1, 0, [abE1], 1, 1, 0, 0, true⟩
def abE2 : Ent := ⟨0, 0, 2, 2, 0, 0, abK, abW, false, ⟨1, 0, 0, 0, 0, 0, 0, 0, 0⟩, 0, 2⟩
def abC4 : CS := ⟨0, 0, 0, some (firstCh 1), 1, 0, [abE1, abE2], 1, 1, 0, 0, true⟩
theorem ab_enter : (CS.new 0 0 0).enter abX0 = ((true, 0), abC1) := by kernel_rfl
theorem ab_put1 : abC1.putS abK abV false V9.z 0 0 1 = ((1, 0), abC2) := by kernel_rfl
theorem ab_sync : abC2.sync = abC3 := by kernel_rfl
theorem ab_put2 : abC3.putS abK abW false V9.z 0 0 2 = ((2, 0), abC4) := by kernel_rfl
def ab0 : LSt := .up [] (CS.new 0 0 0) 0
def abL (rs : List Rec) (k : Nat) : List Lf := [⟨1, rs, k⟩]
theorem abX_right : RightC abX0 := rightC_of (first_ok (by decide) (by decide))
theorem ab_codeN : (recN abX0 0).code = 0 := code_recN abX_right (Int.le_refl 0) (by decide)
theorem ab_r1 : EntR abE1 := by decide +kernel
theorem ab_r2 : EntR abE2 := by decide +kernel
theorem ab_s1 : ab0.enter abX0 = ((true, 0), .up (abL [cutR, recN abX0 0] 2) abC1 0) := by
 have hr : roomB [] 2 = true := by decide
 have h : entLS [] (CS.new 0 0 0) abX0 = ((true, 0), abC1, abL [cutR, recN abX0 0] 2) := by
  unfold entLS
  rw [if_pos hr, ab_enter, if_pos rfl]
  show ((true, (0 : Int)), abC1, lsync (ladd1 (lcut []).1 (recN abX0 0)).1) = _
  rw [lcut_room LOk.nil hr (by decide) (by decide)]
  show ((true, (0 : Int)), abC1, lsync (ladd1 [⟨1, [cutR], 1⟩] (recN abX0 0)).1) = _
  rw [ladd_cut ab_codeN]
  rfl
 show ((entLS [] (CS.new 0 0 0) abX0).1, LSt.up (entLS [] (CS.new 0 0 0) abX0).2.2 (entLS [] (CS.new 0 0 0) abX0).2.1 0) = _
 rw [h]
theorem ab_g1 : ∀ r ∈ [cutR, recN abX0 0], r.code = 0 := by
 intro r hr
 rcases mem_cons.1 hr with rfl | hr
 ·exact cutR_code
 ·rw [mem_singleton.1 hr]; exact ab_codeN
theorem ab_g2 : ∀ r ∈ [cutR, recN abX0 0, recW abE1], r.code = 0 := by
 intro r hr
 rcases mem_append.1 (show r ∈ [cutR, recN abX0 0] ++ [recW abE1] from hr) with hr | hr
 ·exact ab_g1 r hr
 ·rw [mem_singleton.1 hr]; exact recW_code ab_r1
theorem ab_put {rs : List Rec} {k : Nat} (hg : ∀ r ∈ rs, r.code = 0) (hl : rs.length ≤ 10) {c c' : CS} {key val : ByteArray} {op : Int} {r : Int × Int} {e : Ent} (hp : c.putS key val false V9.z 0 0 op = (r, c')) (he : c'.lg = c.lg ++ [e]) (hr : EntR e) :
  (LSt.up (abL rs k) c 0).put key val false V9.z 0 0 op = (r, .up (abL (rs ++ [recW e]) k) c' 0) := by
 have hrm : roomB (abL rs k) 1 = true := room_one hg hl (by decide) (by decide)
 have h : putLS (abL rs k) c key val false V9.z 0 0 op = (r, c', abL (rs ++ [recW e]) k) := by
  unfold putLS
  rw [if_pos hrm, hp]
  simp only []
  rw [grown_push _ c c' e he]
  unfold abL
  rw [ladd_few hg hl (recW_code hr)]
 show ((putLS (abL rs k) c key val false V9.z 0 0 op).1, LSt.up (putLS (abL rs k) c key val false V9.z 0 0 op).2.2 (putLS (abL rs k) c key val false V9.z 0 0 op).2.1 0) = _
 rw [h]
theorem ab_s2 : (ab0.enter abX0).2.put abK abV false V9.z 0 0 1 = ((1, 0), .up (abL [cutR, recN abX0 0, recW abE1] 2) abC2 0) := by
 rw [ab_s1]; exact ab_put ab_g1 (by decide) ab_put1 rfl ab_r1
theorem ab_s3 : ((ab0.enter abX0).2.put abK abV false V9.z 0 0 1).2.sync = .up (abL [cutR, recN abX0 0, recW abE1] 3) abC3 0 := by
 rw [ab_s2]
 show LSt.up (lsync (abL [cutR, recN abX0 0, recW abE1] 2)) abC2.sync 0 = _
 rw [ab_sync]; rfl
theorem ab_s4 : (((ab0.enter abX0).2.put abK abV false V9.z 0 0 1).2.sync.put abK abW false V9.z 0 0 2).2 = .up (abL [cutR, recN abX0 0, recW abE1, recW abE2] 3) abC4 0 := by
 rw [ab_s3, ab_put ab_g2 (by decide) ab_put2 rfl ab_r2]; rfl
theorem ab_fin {s : LSt} {N : Int} (ok : (LSt.up (abL [cutR, recN abX0 0, recW abE1, recW abE2] 3) abC4 0).ok N) (h : StartOf ((LSt.up (abL [cutR, recN abX0 0, recW abE1, recW abE2] 3) abC4 0).crash 0) s) :
  s.isUp = true ∧ s.ch.len = 1 ∧ s.ch.st = 1 ∧ (cfO s.ch.co).ep = 1 := by
 obtain ⟨l', t', rfl, ok', hf, h1, h2, h3, -, h4⟩ := h
 have hk : keptN (abL [cutR, recN abX0 0, recW abE1, recW abE2] 3) (0 : Int).toNat = 3 := by
  have hle := (Rec.good (recW_code ab_r2)).fr_le
  show (if (bytes [recW abE2]).length ≤ 0 then _ else 3 + frN [recW abE2] 0) = 3
  rw [if_neg (by rw [bytes_cons, length_append]; omega)]
  show 3 + (if 0 < (recW abE2).fr.length then 0 else _) = 3
  rw [if_pos (by omega)]
 rw [hk] at h1 h2 h3
 obtain ⟨-, h5, -⟩ := LI.restart ok ok' hf h1 h2 h3 h4
 refine ⟨rfl, ?_⟩
 show (abC4.again (recs l')).len = 1 ∧ (abC4.again (recs l')).st = 1 ∧ (cfO (abC4.again (recs l')).co).ep = 1
 rw [show abC4.again (recs l') = _ from h5]
 exact ⟨by kernel_rfl, by kernel_rfl, by kernel_rfl⟩
end Go.Proofs.YtejfahjgfedliaaGreat

namespace Go.Proofs.YtejfahjgfedliaaGreat
open Go Go.Sl Go.Proofs.Tryz
theorem lgnew_ct (dc rg nd : Int) : Ct prog 12 [.int .i64 dc, .int .i64 rg, .int .i64 nd] [] (fun r H' => ∃ b h, r = .pointer (some ⟨b, 0, none⟩) ∧ H' = [h] ∧ IsLg (.up [] (CS.new dc rg nd) 0) b h) :=
 (lnew_ct dc rg nd).pack rfl fun r H' ⟨b, cb, d, w, hd, h1, h2, h3⟩ => by
  subst h2
  exact ⟨[LgBk b cb dc rg nd d w true ++ (CsBk cb (CS.new dc rg nd) (.slice none 0 0) ++ ([] ++ (WBk w d (lastN []) 0 ++ hd)))], by simp, b, _, h1, rfl, cb, d, w, .slice none 0 0, [], lastN [], 0, hd, rfl, ⟨IsSl.nil _, h3, fun _ => rfl, fun l' c' t' e => (by cases e; rfl), fun e => (by cases e)⟩⟩
theorem dgnew_ct (dc rg nd : Int) : Ct prog 13 [.int .i64 dc, .int .i64 rg, .int .i64 nd] [] (fun r H' => ∃ b h, r = .pointer (some ⟨b, 0, none⟩) ∧ H' = [h] ∧ IsDl (.up [] (CS.new dc rg nd) 0) b 0 h) :=
 (dlnew_ct dc rg nd).pack rfl fun r H' ⟨b, cb, d, w, hd, h1, h2, h3⟩ => by
  subst h2
  exact ⟨[DlBk b cb d w true 0 ++ (DsBk cb (CS.new dc rg nd) (.slice none 0 0) ++ ([] ++ (VBk w d (lastN []) 0 ++ hd)))], by simp, b, _, h1, rfl, cb, d, w, .slice none 0 0, [], lastN [], 0, 0, hd, rfl, ⟨IsSl.nil _, h3, fun _ => rfl, fun e => (by cases e)⟩⟩
theorem lgup_ct {s : LSt} {b : Nat} {h : Hp} (hm : IsLg s b h) : Ct prog 22 [.pointer (some ⟨b, 0, none⟩)] [h] (fun r H' => r = .bool s.isUp ∧ H' = [h]) := hm.still fun cb d w => lup_ct b cb s.c0.dc s.c0.rg s.c0.nd d w s.isUp
set_option maxRecDepth 10000 in
set_option maxHeartbeats 2000000 in
theorem lable_ct : Ct prog 10 [] [] (fun r H' => r = .bool true ∧ H' = []) := by
 have k0 : ab0.ok 0 := LI.nil 0 0 0
 have k1 := k0.enter (by decide) abX0
 have k2 := k1.put (by decide) abK abV false V9.z 0 0 1
 have k3 := k2.sync
 have k4 := k3.put (by decide) abK abW false V9.z 0 0 2
 have k5 := k4.crash 0
 obtain ⟨s6, k6, hst, g6⟩ := lgstart k5
 rw [ab_s4] at hst k4
 obtain ⟨f1, f2, f3, f4⟩ := ab_fin k4 hst
 have hfi := first_ct (n := 1) (by decide) (by decide)
 obtain ⟨s1, e1⟩ : ∃ s, (ab0.enter abX0).2 = s := ⟨_, rfl⟩
 obtain ⟨s2, e2⟩ : ∃ s, (s1.put abK abV false V9.z 0 0 1).2 = s := ⟨_, rfl⟩
 obtain ⟨s4, e4⟩ : ∃ s, (s2.sync.put abK abW false V9.z 0 0 2).2 = s := ⟨_, rfl⟩
 rw [e1] at k1 k2 k3 k5 g6
 rw [e2] at k2 k3 k5 g6
 rw [e4] at k5 g6
 refine Ct.mk' func10 rfl rfl rfl (fun g R => ?_)
 try simp only [ca]
 simp only [na]
 try refine runS ?_
 refine WX.call rfl (lgnew_ct 0 0 0) rfl ?_
 rintro _ _ ⟨b, h0, rfl, rfl, m0⟩
 have m0 : IsLg ab0 b h0 := m0
 obtain ⟨cb, d, w, v, hv, seg, t, hk, rfl, a0⟩ := id m0
 simp only [ca, na]
 refine WX.perm (H' := [LgBk b cb ab0.c0.dc ab0.c0.rg ab0.c0.nd d w ab0.isUp, CsBk cb ab0.ch v, hv, WBk w d seg t, hk, R]) (List.Perm.of_eq (by simp)) ?_
 try refine runS ?_
 refine WX.call rfl hfi rfl ?_
 rintro _ _ ⟨rfl, rfl⟩
 simp only [ca, na]
 repeat' (first | refine runS ?_ | refine al (fun _ => ?_) | refine sGW Cfg.z.enc abX0.enc rfl rfl ?_ | fail)
 rename_i b2
 have q1 := Ct.pack (pre' := [LgBk b cb ab0.c0.dc ab0.c0.rg ab0.c0.nd d w ab0.isUp, CsBk cb ab0.ch v, hv, WBk w d seg t, hk]) (lgenter_ct k0 m0 abX0) (by simp) (fun v H' p => ⟨H', rfl, p⟩)
 repeat' (first | refine lAN (t := 34) abX0.enc abX0.enc rfl ?_ | fail)
 refine WX.call rfl q1 rfl ?_
 rintro _ _ ⟨rfl, h1, rfl, m1⟩
 rw [e1] at m1
 simp only [ca, na]
 repeat' (first | refine runS ?_ | refine bdZ V9.z.enc ?_ | fail)
 refine WX.call rfl (lgput_ct k1 m1 abK abV false V9.z 0 0 1) rfl ?_
 rintro _ _ ⟨rfl, h2, rfl, m2⟩
 rw [e2] at m2
 simp only [ca, na]
 try refine runS ?_
 refine WX.call rfl (lgsync_ct k2 m2) rfl ?_
 rintro _ _ ⟨rfl, h3, rfl, m3⟩
 simp only [ca, na]
 repeat' (first | refine runS ?_ | refine bdZ V9.z.enc ?_ | fail)
 refine WX.call rfl (lgput_ct k3 m3 abK abW false V9.z 0 0 2) rfl ?_
 rintro _ _ ⟨rfl, h4, rfl, m4⟩
 rw [e4] at m4
 simp only [ca, na]
 try refine runS ?_
 refine WX.call rfl (lgcrash_ct (s := s4) (N := 0 + 2 + 1 + 1) (by rw [← e4]; exact (k3.put (by decide) abK abW false V9.z 0 0 2)) m4 (keep := 0) (by decide) (by decide)) rfl ?_
 rintro _ _ ⟨rfl, h5, rfl, m5⟩
 have q5 := lgup_ct m5
 have hu5 : (s4.crash 0).isUp = false := by cases s4 <;> rfl
 rw [hu5] at q5
 simp only [ca, na]
 repeat' (first | refine runS ?_ | refine WX.callQ rfl q5 rfl ?_ | fail)
 refine WX.call rfl (g6 m5) rfl ?_
 rintro _ _ ⟨rfl, h6, rfl, m6⟩
 have q6 := lgup_ct m6
 rw [f1] at q6
 simp only [ca, na]
 repeat' (first | refine runS ?_ | refine WX.callQ rfl q6 rfl ?_ | fail)
 obtain ⟨cb6, d6, w6, v6, hv6, seg6, t6, hk6, rfl, a6⟩ := id m6
 have hc6 := clen_ct s6.ch cb6 a6.sl.rs
 have hs6 := cstab_ct s6.ch cb6 v6
 have he6 := cepoch_ct s6.ch cb6 v6
 rw [f2] at hc6
 rw [f3] at hs6
 rw [f4] at he6
 refine WX.perm (H' := [LgBk b cb6 s6.c0.dc s6.c0.rg s6.c0.nd d6 w6 s6.isUp, CsBk cb6 s6.ch v6, hv6, WBk w6 d6 seg6 t6, hk6, CfBk b2 abX0, R]) (List.Perm.of_eq (by simp)) ?_
 repeat' (first | refine runS ?_ | refine WX.callQ rfl hc6 rfl ?_ | refine WX.callQ rfl hs6 rfl ?_ | refine WX.callQ rfl he6 rfl ?_ | fail)
 exact D.fin1 [] _ rfl rfl ⟨by simp, rfl⟩
end Go.Proofs.YtejfahjgfedliaaGreat

namespace Go.Proofs.YtejfahjgfedliaaGreat
open Go Go.Sl Go.Proofs.Tryz List
theorem StartOf.up {s s' : LSt} (h : StartOf s s') : ∃ l c t, s' = .up l c t := by
 cases s with
 | up l c t => exact ⟨l, c, t, h⟩
 | dn l c q => obtain ⟨l', t', h1, -⟩ := h; exact ⟨_, _, _, h1⟩
def LaOk (a : La) : Prop := (-9223372036854775808 ≤ a.n ∧ a.n ≤ 9223372036854775807) ∧ a.key.size ≤ 562949953421312 ∧ a.val.size ≤ 562949953421312 ∧ a.e.key.size ≤ 562949953421312 ∧ a.e.val.size ≤ 562949953421312
set_option maxRecDepth 10000 in
set_option maxHeartbeats 4000000 in
theorem lkeeps_ct (dc rg nd : Int) {keep : Int} (hk1 : -9223372036854775808 ≤ keep) (hk2 : keep ≤ 9223372036854775807) {acts : List La} {v : Value} {h0 : Hp} (hs : Rs acts v h0) (hl : acts.length ≤ 1099511627776) (hz : ∀ a ∈ acts, LaOk a) :
  Ct prog 3 [.int .i64 dc, .int .i64 rg, .int .i64 nd, v, .int .i64 keep] [h0] (fun r H' => r = .bool true ∧ H' = [h0]) := by
 obtain ⟨vp, vc, rfl⟩ := hs.len
 refine Ct.mk' func3 rfl rfl rfl (fun g R => ?_)
 try simp only [ca]
 simp only [na]
 repeat' (first | refine runS ?_ | refine WX.callQ rfl lable_ct rfl ?_ | fail)
 refine WX.call rfl (lmuch_ct hs hl fun a ha => (hz a ha).2) rfl ?_
 rintro _ _ ⟨b1, rfl, rfl, hmu⟩
 simp only [ca, na]
 cases b1 with
 | true =>
  try refine runS ?_
  exact D.fin1 [h0] _ rfl rfl ⟨rfl, rfl⟩
 | false =>
  have hmu := hmu rfl
  try refine runS ?_
  refine WX.call rfl (lgnew_ct dc rg nd) rfl ?_
  rintro _ _ ⟨b, h1, rfl, rfl, m1⟩
  simp only [ca, na]
  try refine runS ?_
  refine WX.call rfl (dgnew_ct dc rg nd) rfl ?_
  rintro _ _ ⟨bd, h2, rfl, rfl, m2⟩
  simp only [ca, na]
  try refine runS ?_
  refine W.loop (α := Nat × LSt × LSt × Hp × Hp) (fun x => x.1 ≤ acts.length ∧ x.2.1.ok (2 * (x.1 : Int)) ∧ x.2.2.1.ok (2 * (x.1 : Int)) ∧ IsLg x.2.1 b x.2.2.2.1 ∧ IsDl x.2.2.1 bd (486 * (x.1 : Int)) x.2.2.2.2)
   (fun x => [(3, .slice vp acts.length vc), (4, .int .i64 keep), (11, .pointer (some ⟨b, 0, none⟩)), (12, .pointer (some ⟨bd, 0, none⟩)), (13, .int .i64 (x.1 : Int))]) (fun x => [x.2.2.2.1, x.2.2.2.2, h0, R]) (fun x => acts.length - x.1)
   (0, .up [] (CS.new dc rg nd) 0, .up [] (CS.new dc rg nd) 0, h1, h2) ⟨Nat.zero_le _, LI.nil dc rg nd, LI.nil dc rg nd, m1, m2⟩ (by repeat (first | exact Fsub.nil | refine Fsub.cons rfl ?_)) (Hsub.of_picks inferInstance) ?_
  rintro ⟨i, sP, sD, hp, hd⟩ ⟨hi, okP, okD, mP, mD⟩
  simp only [] at hi okP okD mP mD ⊢
  by_cases hlt : i < acts.length
  ·obtain ⟨a, ha⟩ : ∃ a, acts[i]? = some a := ⟨_, List.getElem?_eq_getElem hlt⟩
   obtain ⟨⟨n1, n2⟩, -⟩ := hz a (mem_of_getElem? ha)
   obtain ⟨sP', sD', okP', okD', hA⟩ := act_step (T := 486 * (i : Int)) okP okD (by omega) (by omega) a n1 n2
   repeat' (first | refine runS ?_ | refine WX.loadEW rfl hs ha rfl rfl ?_ | fail)
   refine WX.call rfl (hA (T0 := 486 * (i : Int)) (by omega) (Int.le_refl _) mP mD) rfl ?_
   rintro _ _ ⟨bo, h', hd', rfl, rfl, mP', mD'⟩
   have e1 : 2 * (i : Int) + 2 = 2 * ((i + 1 : Nat) : Int) := by omega
   have e2 : 486 * (i : Int) + 486 = 486 * ((i + 1 : Nat) : Int) := by omega
   rw [e1] at okP' okD'
   rw [e2] at mD'
   simp only [ca, na]
   try refine runS ?_
   exact D.rd (i + 1, sP', sD', h', hd') ⟨by simp only []; omega, okP', okD', mP', mD'⟩ (by simp only []; omega)
  ·obtain rfl : i = acts.length := by omega
   obtain ⟨s1, ok1, st1, g1⟩ := lgstart okP
   obtain ⟨l, c, t, rfl⟩ := st1.up
   have okc : CsOk c := ok1.ch
   have hcl := okc.len
   try refine runS ?_
   refine WX.call rfl (g1 mP) rfl ?_
   rintro _ _ ⟨rfl, h3, rfl, m3⟩
   obtain ⟨cb, d, w, u, hv, seg, tt, hk, rfl, a3⟩ := id m3
   have hsl : IsSl 43 c.lg u hv := a3.sl
   simp only [ca, na]
   refine WX.perm (H' := [LgBk b cb c.dc c.rg c.nd d w true, CsBk cb c u, hv, WBk w d seg tt, hk, hd, h0, R]) (List.Perm.of_eq (by simp [LSt.c0, LSt.ch, LSt.isUp])) ?_
   try refine runS ?_
   have hdu := cdur_ct c cb u
   have hcf := cconfig_ct c cb u
   have hsi := csince_ct c cb u
   have hbs := cbase_ct c cb u
   have hlo := clog_ct c cb hsl.rs (by omega)
   refine W.cutQ (α := Hp × Value × Nat) (fun x => IsSl 43 c.lg x.2.1 x.1) (fun x => [(4, .int .i64 keep), (11, .pointer (some ⟨b, 0, none⟩)), (14, x.2.1), (15, .int .i64 c.du), (16, .pointer (some ⟨x.2.2, 0, none⟩)), (17, .int .i64 c.sn), (18, .int .i64 c.bs)])
    (fun x => [x.1, CfBk x.2.2 (cfO c.co), LgBk b cb c.dc c.rg c.nd d w true, CsBk cb c u, hv, WBk w d seg tt, hk, h0, R]) ?_ ?_
   ·refine W.mixA 8 (List.replicate 4 true ++ [false] ++ (List.replicate 4 true ++ [false]) ++ (List.replicate 4 true ++ [false]) ++ (List.replicate 4 true ++ [false]) ++ (List.replicate 4 true ++ [false, false])) 25 [LgBk b cb c.dc c.rg c.nd d w true, CsBk cb c u, hv] Tryz.mix (by kernel_rfl) rfl ?_
    repeat' (first | refine runS ?_ | refine al (fun _ => ?_) | refine WA.un ?_ | refine WA.backU ?_ | refine WA.an ?_ ?_ | fail)
    all_goals
     skip
     refine WX.call rfl hlo rfl ?_
     rintro vL _ ⟨hL, hsL, rfl⟩
     simp only [ca, na]
     repeat' (first | refine runS ?_ | refine al (fun _ => ?_) | refine sGW Cfg.z.enc (cfO c.co).enc rfl rfl ?_ | refine WX.callQ rfl hdu rfl ?_ | refine WX.callQ rfl hcf rfl ?_ | refine WX.callQ rfl hsi rfl ?_ | refine WX.callQ rfl hbs rfl ?_ | refine WA.un ?_ | refine WA.backU ?_ | refine WA.back ?_ | refine WA.an ?_ ?_ | refine WA.nil ?_ | fail)
     all_goals
      rename_i b16
      exact D.atQ (hL, vL, b16) hsL (by repeat (first | exact Fsub.nil | refine Fsub.cons rfl ?_)) (Hsub.of_picks inferInstance)
   ·rintro ⟨hL, vL, b16⟩ hsL
    simp only [] at hsL ⊢
    obtain ⟨pL, cL, rfl⟩ := hsL.rs.len
    have q4 := Ct.pack (pre' := [LgBk b cb c.dc c.rg c.nd d w true, CsBk cb c u, hv, WBk w d seg tt, hk]) (lgcrash_ct ok1 m3 hk1 hk2) (by simp [LSt.c0, LSt.ch, LSt.isUp]) (fun v H' p => ⟨H', rfl, p⟩)
    try refine runS ?_
    refine WX.call rfl q4 rfl ?_
    rintro _ _ ⟨rfl, h5, rfl, m5⟩
    have m5 : IsLg (.dn l c keep.toNat) b h5 := m5
    have ok5 : (LSt.dn l c keep.toNat).ok (2 * (acts.length : Int)) := ok1
    have u5 : Ct prog 22 [.pointer (some ⟨b, 0, none⟩)] [h5] (fun r H' => r = .bool false ∧ H' = [h5]) := lgup_ct m5
    simp only [ca, na]
    repeat' (first | refine runS ?_ | refine WX.callQ rfl u5 rfl ?_ | fail)
    obtain ⟨cb5, d5, w5, u5v, hv5, seg5, t5, hk5, e5, a5⟩ := id m5
    subst e5
    have hln := clen_ct (CS.new c.dc c.rg c.nd) cb5 (v := u5v) (hv := hv5) a5.sl.rs
    have hep := cepoch_ct (CS.new c.dc c.rg c.nd) cb5 u5v
    have q6 := Ct.pack (pre' := [LgBk b cb5 c.dc c.rg c.nd d5 w5 false, CsBk cb5 (CS.new c.dc c.rg c.nd) u5v, hv5, WBk w5 d5 seg5 t5, hk5]) (lgtake_ct ok5 m5 0 1 1 Ent.z) (by simp [LSt.c0, LSt.ch, LSt.isUp]) (fun v H' p => ⟨H', rfl, p⟩)
    refine WX.perm (H' := [LgBk b cb5 c.dc c.rg c.nd d5 w5 false, CsBk cb5 (CS.new c.dc c.rg c.nd) u5v, hv5, WBk w5 d5 seg5 t5, hk5, hL, CfBk b16 (cfO c.co), h0, R]) (List.Perm.of_eq (by simp [LSt.c0, LSt.ch, LSt.isUp])) ?_
    repeat' (first | refine runS ?_ | refine WX.callQ rfl hln rfl ?_ | refine WX.callQ rfl hep rfl ?_ | fail)
    repeat' (first | refine runS ?_ | refine bdN Ent.z.enc ?_ | fail)
    refine WX.call rfl q6 rfl ?_
    rintro _ _ ⟨rfl, h6, rfl, m6⟩
    have m6 : IsLg (.dn l c keep.toNat) b h6 := m6
    rw [show ((LSt.dn l c keep.toNat).take 0 1 1 Ent.z).1 = false from rfl]
    simp only [ca, na]
    repeat' (first | refine runS ?_ | refine bdZ V9.z.enc ?_ | fail)
    refine WX.call rfl (lgput_ct ok5 m6 abK abV false V9.z 0 0 1) rfl ?_
    rintro _ _ ⟨rfl, h7, rfl, m7⟩
    have m7 : IsLg (.dn l c keep.toNat) b h7 := m7
    rw [show ((LSt.dn l c keep.toNat).put abK abV false V9.z 0 0 1).1 = (0, 52) from rfl]
    simp only [ca, na]
    try refine runS ?_
    refine WX.call rfl (lgsync_ct ok5 m7) rfl ?_
    rintro _ _ ⟨rfl, h8, rfl, m8⟩
    have m8 : IsLg (.dn l c keep.toNat) b h8 := m8
    obtain ⟨s9, ok9, st9, g9⟩ := lgstart ok5
    simp only [ca, na]
    try refine runS ?_
    refine WX.call rfl (g9 m8) rfl ?_
    rintro _ _ ⟨rfl, h9, rfl, m9⟩
    obtain ⟨l', t', e9, ok', hf, g1', g2', g3', -, g4'⟩ := st9
    subst e9
    obtain ⟨-, -, r1, r2, r3, r4, r5, r6⟩ := LI.restart ok5 ok' hf g1' g2' g3' g4'
    have r1 : (c.again (recs l')).co = c.co := r1
    have r2 : (c.again (recs l')).sn = c.sn := r2
    have r3 : (c.again (recs l')).bs = c.bs := r3
    have okd := ok9.ch
    have okd : CsOk (c.again (recs l')) := okd
    obtain ⟨K, hK⟩ : ∃ K, c.lg.length - ((recs l).length - keptN l keep.toNat) = K := ⟨_, rfl⟩
    have r4 : (c.again (recs l')).lg = c.lg.take K := by rw [← hK]; exact r4
    have r6 : c.du.toNat ≤ K := by rw [← hK]; exact r6
    have r7 : K ≤ c.lg.length := by rw [← hK]; omega
    have r8 : (c.again (recs l')).du = (K : Int) := by rw [show (c.again (recs l')).du = (c.again (recs l')).len from r5]; unfold CS.len; rw [r4, length_take]; omega
    obtain ⟨cb9, d9, w9, u9, hv9, seg9, t9, hk9, e9, a9⟩ := id m9
    subst e9
    generalize c.again (recs l') = c9 at *
    have s9 : IsSl 43 c9.lg u9 hv9 := a9.sl
    have hlo9 := clog_ct c9 cb9 s9.rs (by have := okd.len; omega)
    have hdu9 := cdur_ct c9 cb9 u9
    have hcf9 := cconfig_ct c9 cb9 u9
    have hsi9 := csince_ct c9 cb9 u9
    have hbs9 := cbase_ct c9 cb9 u9
    rw [r1] at hcf9
    rw [r2] at hsi9
    rw [r3] at hbs9
    rw [r8] at hdu9
    rw [r4] at hlo9
    simp only [ca, na]
    refine WX.perm (H' := [LgBk b cb9 c9.dc c9.rg c9.nd d9 w9 true, CsBk cb9 c9 u9, hv9, WBk w9 d9 seg9 t9, hk9, hL, CfBk b16 (cfO c.co), h0, R]) (List.Perm.of_eq (by simp [LSt.c0, LSt.ch, LSt.isUp])) ?_
    try refine runS ?_
    refine WX.call rfl hlo9 rfl ?_
    rintro vN _ ⟨hN, hsN, rfl⟩
    have hle : (c.lg.take K).length = K := by rw [length_take]; omega
    have hcut := hsL.rs.take (m := K) r7
    have hd1 : c.du ≤ (K : Int) := by have := okc.du.1; omega
    generalize c.lg.take K = es at *
    subst hle
    have hrN := hsN.rs
    obtain ⟨pN, cN, rfl⟩ := hrN.len
    have hen := entries_ct hrN hcut (by omega)
    have hkc : cellsEq kCfg (cfO c.co).enc (cfO c.co).enc = some true := selfC rfl
    have hrL := hsL.rs
    simp only [ca, na]
    try refine runS ?_
    refine W.quiet Tryz.mix (by kernel_rfl) ?_
    repeat' (first | refine runS ?_ | refine WX.callQ rfl hen rfl ?_ | refine WX.callQ rfl hcf9 rfl ?_ | refine WX.callQ rfl hsi9 rfl ?_ | refine WX.callQ rfl hbs9 rfl ?_ | refine WX.callQ rfl hdu9 rfl ?_ | refine lAN (t := 34) (cfO c.co).enc (cfO c.co).enc rfl ?_ | refine WX.eqlA rfl rfl hkc rfl ?_ | fail)
    exact D.fin1 [h0] _ rfl rfl ⟨by simp, rfl⟩
section
variable {H : Type} {enc : TypeId × Value → H} {P : Program} {w : World} {base : Nat} {spare : Nat → Bool} {held : Bool}
theorem trod5 {t0 t1 t2 t3 t4 : TypeId} {args : Array Value} {ds : List (DataW H)} {ps : List MemPlace} (h : DataW.TrodAll enc P w base spare held [t0, t1, t2, t3, t4] args.toList ds ps) :
  ∃ v0 v1 v2 v3 v4 d0 d1 d2 d3 d4, args = #[v0, v1, v2, v3, v4] ∧ ds = [d0, d1, d2, d3, d4] ∧ (∃ p, DataW.Trod enc P w base spare held t0 v0 d0 p) ∧ (∃ p, DataW.Trod enc P w base spare held t1 v1 d1 p) ∧ (∃ p, DataW.Trod enc P w base spare held t2 v2 d2 p) ∧ (∃ p, DataW.Trod enc P w base spare held t3 v3 d3 p) ∧ (∃ p, DataW.Trod enc P w base spare held t4 v4 d4 p) := by
 obtain ⟨v0, vs0, d0, ds0, p0, q0, ha, rfl, rfl, hd0, hr0⟩ := ChangeShapes.trodAll_cons h
 obtain ⟨v1, vs1, d1, ds1, p1, q1, rfl, rfl, rfl, hd1, hr1⟩ := ChangeShapes.trodAll_cons hr0
 obtain ⟨v2, vs2, d2, ds2, p2, q2, rfl, rfl, rfl, hd2, hr2⟩ := ChangeShapes.trodAll_cons hr1
 obtain ⟨v3, vs3, d3, ds3, p3, q3, rfl, rfl, rfl, hd3, hr3⟩ := ChangeShapes.trodAll_cons hr2
 obtain ⟨v4, vs4, d4, ds4, p4, q4, rfl, rfl, rfl, hd4, hr4⟩ := ChangeShapes.trodAll_cons hr3
 obtain ⟨rfl, rfl, rfl⟩ := ChangeShapes.trodAll_nil hr4
 exact ⟨v0, v1, v2, v3, v4, d0, d1, d2, d3, d4, by cases args; simp_all, rfl, ⟨_, hd0⟩, ⟨_, hd1⟩, ⟨_, hd2⟩, ⟨_, hd3⟩, ⟨_, hd4⟩⟩
theorem trod6 {t0 t1 t2 t3 t4 t5 : TypeId} {args : Array Value} {ds : List (DataW H)} {ps : List MemPlace} (h : DataW.TrodAll enc P w base spare held [t0, t1, t2, t3, t4, t5] args.toList ds ps) :
  ∃ v0 v1 v2 v3 v4 v5 d0 d1 d2 d3 d4 d5, args = #[v0, v1, v2, v3, v4, v5] ∧ ds = [d0, d1, d2, d3, d4, d5] ∧ (∃ p, DataW.Trod enc P w base spare held t0 v0 d0 p) ∧ (∃ p, DataW.Trod enc P w base spare held t1 v1 d1 p) ∧ (∃ p, DataW.Trod enc P w base spare held t2 v2 d2 p) ∧ (∃ p, DataW.Trod enc P w base spare held t3 v3 d3 p) ∧ (∃ p, DataW.Trod enc P w base spare held t4 v4 d4 p) ∧ (∃ p, DataW.Trod enc P w base spare held t5 v5 d5 p) := by
 obtain ⟨v0, vs0, d0, ds0, p0, q0, ha, rfl, rfl, hd0, hr0⟩ := ChangeShapes.trodAll_cons h
 obtain ⟨v1, vs1, d1, ds1, p1, q1, rfl, rfl, rfl, hd1, hr1⟩ := ChangeShapes.trodAll_cons hr0
 obtain ⟨v2, vs2, d2, ds2, p2, q2, rfl, rfl, rfl, hd2, hr2⟩ := ChangeShapes.trodAll_cons hr1
 obtain ⟨v3, vs3, d3, ds3, p3, q3, rfl, rfl, rfl, hd3, hr3⟩ := ChangeShapes.trodAll_cons hr2
 obtain ⟨v4, vs4, d4, ds4, p4, q4, rfl, rfl, rfl, hd4, hr4⟩ := ChangeShapes.trodAll_cons hr3
 obtain ⟨v5, vs5, d5, ds5, p5, q5, rfl, rfl, rfl, hd5, hr5⟩ := ChangeShapes.trodAll_cons hr4
 obtain ⟨rfl, rfl, rfl⟩ := ChangeShapes.trodAll_nil hr5
 exact ⟨v0, v1, v2, v3, v4, v5, d0, d1, d2, d3, d4, d5, by cases args; simp_all, rfl, ⟨_, hd0⟩, ⟨_, hd1⟩, ⟨_, hd2⟩, ⟨_, hd3⟩, ⟨_, hd4⟩, ⟨_, hd5⟩⟩
end
section
variable {H : Type} {enc : TypeId × Value → H} {w : World} {t e : Nat} {ag : Bool} {cs : List Value}
theorem rd_col [TU prog t (.array 3 e)] [TL prog t 3 ag] [TL prog e 1 false] [TU prog e (.int .i64)] (h : StOk enc prog w t cs) : ∃ a b c, cs = [.int .i64 a, .int .i64 b, .int .i64 c] := by
 have hl := h.lenA (k := 3)
 match cs, hl with
 | [c0, c1, c2], _ =>
  obtain ⟨n0, e0, _⟩ := (h.elem (k := 1) 0 (by decide)).int
  obtain ⟨n1, e1, _⟩ := (h.elem (k := 1) 1 (by decide)).int
  obtain ⟨n2, e2, _⟩ := (h.elem (k := 1) 2 (by decide)).int
  cases e0; cases e1; cases e2
  exact ⟨n0, n1, n2, rfl⟩
theorem rd_vec (h : StOk enc prog w 37 cs) : ∃ v : V9, cs = v.enc := by
 have hl := h.lenA (k := 9)
 match cs, hl with
 | [c0, c1, c2, c3, c4, c5, c6, c7, c8], _ =>
  obtain ⟨a, b, c, e0⟩ := rd_col (h.elem (k := 3) 0 (by decide))
  obtain ⟨a', b', c', e1⟩ := rd_col (h.elem (k := 3) 1 (by decide))
  obtain ⟨a'', b'', c'', e2⟩ := rd_col (h.elem (k := 3) 2 (by decide))
  cases e0; cases e1; cases e2
  exact ⟨⟨a, b, c, a', b', c', a'', b'', c''⟩, rfl⟩
theorem rd_dot (h : StOk enc prog w 39 cs) : ∃ a b c, cs = [.int .i64 a, .int .i64 b, .int .i64 c] := by
 have hl := h.len (i := 0)
 match cs, hl with
 | [c0, c1, c2], _ =>
  obtain ⟨n0, e0, _⟩ := (h.field 0).int
  obtain ⟨n1, e1, _⟩ := (h.field 1).int
  obtain ⟨n2, e2, _⟩ := (h.field 2).int
  cases e0; cases e1; cases e2
  exact ⟨n0, n1, n2, rfl⟩
theorem rd_stamp (h : StOk enc prog w 41 cs) : ∃ a b c, cs = [.int .i64 a, .int .i64 b, .int .i64 c] := by
 have hl := h.len (i := 0)
 match cs, hl with
 | [c0, c1, c2], _ =>
  obtain ⟨n0, e0, _⟩ := (h.field 0).int
  obtain ⟨n1, e1, _⟩ := (h.field 1).int
  obtain ⟨n2, e2, _⟩ := (h.field 2).int
  cases e0; cases e1; cases e2
  exact ⟨n0, n1, n2, rfl⟩
theorem rd_mem (h : StOk enc prog w 31 cs) : ∃ a b, cs = [.int .i64 a, .int .i64 b] := by
 have hl := h.len (i := 0)
 match cs, hl with
 | [c0, c1], _ =>
  obtain ⟨n0, e0, _⟩ := (h.field 0).int
  obtain ⟨n1, e1, _⟩ := (h.field 1).int
  cases e0; cases e1
  exact ⟨n0, n1, rfl⟩
theorem rd_ent (h : StOk enc prog w 43 cs) : ∃ x : Ent, cs = x.enc ∧ x.key.data.toList.length ≤ reachBytes ∧ x.val.data.toList.length ≤ reachBytes := by
 have hl := h.len (i := 0)
 match cs, hl with
 | [c0, c1, c2, c3, c4, c5, c6, c7, c8, c9, c10, c11, c12, c13, c14, c15, c16, c17, c18, c19], _ =>
  have h0 : StOk enc prog w 39 [c0, c1, c2] := h.field 0
  have h1 : StOk enc prog w 41 [c3, c4, c5] := h.field 1
  obtain ⟨a, b, c, e0⟩ := rd_dot h0
  obtain ⟨a', b', c', e1⟩ := rd_stamp h1
  obtain ⟨key, e2, hk⟩ := (h.field 2).string
  obtain ⟨val, e3, hv⟩ := (h.field 3).string
  obtain ⟨dead, e4⟩ := (h.field 4).bool
  have h5 : StOk enc prog w 37 [c9, c10, c11, c12, c13, c14, c15, c16, c17] := h.field 5
  obtain ⟨dp, e5⟩ := rd_vec h5
  obtain ⟨cl, e6, _⟩ := (h.field 6).int
  obtain ⟨op, e7, _⟩ := (h.field 7).int
  cases e0; cases e1; cases e2; cases e3; cases e4; cases e5; cases e6; cases e7
  exact ⟨⟨a, b, c, a', b', c', key, val, dead, dp, cl, op⟩, rfl, hk, hv⟩
theorem rd_fulls [TU prog t (.array 4 31)] [TL prog t 8 ag] (h : StOk enc prog w t cs) : ∃ a b c d : Mem, cs = [.int .i64 a.nd, .int .i64 a.sn, .int .i64 b.nd, .int .i64 b.sn, .int .i64 c.nd, .int .i64 c.sn, .int .i64 d.nd, .int .i64 d.sn] := by
 have hl := h.lenA (k := 8)
 match cs, hl with
 | [c0, c1, c2, c3, c4, c5, c6, c7], _ =>
  obtain ⟨a, b, e0⟩ := rd_mem (h.elem (k := 2) 0 (by decide))
  obtain ⟨a', b', e1⟩ := rd_mem (h.elem (k := 2) 1 (by decide))
  obtain ⟨a'', b'', e2⟩ := rd_mem (h.elem (k := 2) 2 (by decide))
  obtain ⟨a3, b3, e3⟩ := rd_mem (h.elem (k := 2) 3 (by decide))
  cases e0; cases e1; cases e2; cases e3
  exact ⟨⟨a, b⟩, ⟨a', b'⟩, ⟨a'', b''⟩, ⟨a3, b3⟩, rfl⟩
theorem rd_cfg (h : StOk enc prog w 34 cs) : ∃ x : Cfg, cs = x.enc := by
 have hl := h.len (i := 0)
 match cs, hl with
 | [c0, c1, c2, c3, c4, c5, c6, c7, c8, c9, c10, c11, c12], _ =>
  obtain ⟨ep, e0, _⟩ := (h.field 0).int
  obtain ⟨n, e1, _⟩ := (h.field 1).int
  obtain ⟨f0, f1, f2, f3, e2⟩ := rd_fulls (h.field 2)
  obtain ⟨jo, e3⟩ := (h.field 3).bool
  have h4 : StOk enc prog w 31 [c11, c12] := h.field 4
  obtain ⟨a, b, e4⟩ := rd_mem h4
  cases e0; cases e1; cases e2; cases e3; cases e4
  exact ⟨⟨ep, n, f0, f1, f2, f3, jo, ⟨a, b⟩⟩, rfl⟩
end
theorem cut_at {α : Type} (cs : List α) (a b : Nat) : cs.drop a = (cs.drop a).take b ++ cs.drop (a + b) := by rw [← drop_drop, take_append_drop]
theorem size_in {b : ByteArray} (h : b.data.toList.length ≤ reachBytes) : b.size ≤ 562949953421312 := by
 rw [show b.data.toList.length = b.size from Array.length_toList] at h
 unfold reachBytes at h; omega
set_option maxRecDepth 100000 in
theorem rd_la : RdOk prog 45 La (fun _ a => LaOk a) := Go.Sl.rd_of fun H enc w cs h => by
 have hl : cs.length = 49 := h.len (i := 0)
 obtain ⟨k, e0, _⟩ := (h.field 0).int
 obtain ⟨a, e1, _⟩ := (h.field 1).int
 obtain ⟨b, e2, _⟩ := (h.field 2).int
 obtain ⟨n, e3, hn⟩ := (h.field 3).int
 have h4 : StOk enc prog w 34 ((cs.drop 4).take 13) := h.field 4
 obtain ⟨x, e4⟩ := rd_cfg h4
 obtain ⟨key, e5, hk⟩ := (h.field 5).string
 obtain ⟨val, e6, hv⟩ := (h.field 6).string
 obtain ⟨dead, e7⟩ := (h.field 7).bool
 have h8 : StOk enc prog w 37 ((cs.drop 20).take 9) := h.field 8
 obtain ⟨dp, e8⟩ := rd_vec h8
 have h9 : StOk enc prog w 43 ((cs.drop 29).take 20) := h.field 9
 obtain ⟨e, e9, hek, hev⟩ := rd_ent h9
 have e0 : (cs.drop 0).take 1 = [.int .i64 k] := e0
 have e1 : (cs.drop 1).take 1 = [.int .i64 a] := e1
 have e2 : (cs.drop 2).take 1 = [.int .i64 b] := e2
 have e3 : (cs.drop 3).take 1 = [.int .i64 n] := e3
 have e5 : (cs.drop 17).take 1 = [.string key] := e5
 have e6 : (cs.drop 18).take 1 = [.string val] := e6
 have e7 : (cs.drop 19).take 1 = [.bool dead] := e7
 refine ⟨⟨k, a, b, n, x, key, val, dead, dp, e⟩, ?_, ⟨hn.1, hn.2⟩, size_in hk, size_in hv, size_in hek, size_in hev⟩
 have a0 := cut_at cs 0 1
 rw [e0] at a0
 have a1 := cut_at cs 1 1
 rw [e1] at a1
 have a2 := cut_at cs 2 1
 rw [e2] at a2
 have a3 := cut_at cs 3 1
 rw [e3] at a3
 have a4 := cut_at cs 4 13
 rw [e4] at a4
 have a5 := cut_at cs 17 1
 rw [e5] at a5
 have a6 := cut_at cs 18 1
 rw [e6] at a6
 have a7 := cut_at cs 19 1
 rw [e7] at a7
 have a8 := cut_at cs 20 9
 rw [e8] at a8
 have a9 := cut_at cs 29 20
 rw [e9, show cs.drop (29 + 20) = [] from drop_eq_nil_of_le (by omega), append_nil] at a9
 rw [drop_zero] at a0
 rw [a0, show 0 + 1 = 1 from rfl, a1, show 1 + 1 = 2 from rfl, a2, show 2 + 1 = 3 from rfl, a3, show 3 + 1 = 4 from rfl, a4, show 4 + 13 = 17 from rfl, a5, show 17 + 1 = 18 from rfl, a6, show 18 + 1 = 19 from rfl, a7, show 19 + 1 = 20 from rfl, a8, show 20 + 9 = 29 from rfl, a9]
 rfl
theorem las_in {n : Nat} (hl : n * prog.bytesOf 45 ≤ reachBytes) : n ≤ 1099511627776 := by
 rw [show prog.bytesOf 45 = 424 by kernel_rfl] at hl
 unfold reachBytes at hl; omega
theorem start_dn {l : List Lf} {c : CS} {N : Int} {q : Nat} {s : LSt} (ok : (LSt.dn l c q).ok N) (h : StartOf (.dn l c q) s) : ∃ l' t', s = .up l' (c.again (recs l')) t' ∧ (∀ f ∈ l', f.full = f) ∧ recs l' = (recs l).take (keptN l q) ∧
  (c.again (recs l')).lg = c.lg.take (c.lg.length - ((recs l).length - keptN l q)) ∧ sumK l ≤ keptN l q ∧ keptN l q ≤ (recs l).length ∧ (looseB l ≤ q → t' = 0) := by
 obtain ⟨l', t', rfl, ok', hf, h1, h2, h3, h4, h5⟩ := h
 obtain ⟨-, -, -, -, -, r4, -, -⟩ := LI.restart ok ok' hf h1 h2 h3 h5
 exact ⟨l', t', rfl, hf, h3, r4, h1, h2, h4⟩
theorem loose_full {l : List Lf} (h : ∀ f ∈ l, f.full = f) : looseB l = 0 := by
 unfold looseB
 induction l with
 | nil => rfl
 | cons f t ih =>
  have hf := congrArg Lf.k (h f (mem_cons_self ..))
  rw [map_cons, sum_cons, ih fun x hx => h x (mem_cons_of_mem _ hx), show f.k = f.rs.length from hf.symm, drop_length]; rfl
set_option maxRecDepth 10000 in
set_option maxHeartbeats 8000000 in
theorem ltorn2_ct (dc rg nd : Int) {a b : Int} (ha1 : -9223372036854775808 ≤ a) (ha2 : a ≤ 9223372036854775807) (hb1 : -9223372036854775808 ≤ b) (hb2 : b ≤ 9223372036854775807) {acts : List La} {v : Value} {h0 : Hp} (hs : Rs acts v h0) (hl : acts.length ≤ 1099511627776) (hz : ∀ a ∈ acts, LaOk a) :
  Ct prog 4 [.int .i64 dc, .int .i64 rg, .int .i64 nd, v, .int .i64 a, .int .i64 b] [h0] (fun r H' => r = .bool true ∧ H' = [h0]) := by
 obtain ⟨vp, vc, rfl⟩ := hs.len
 obtain ⟨lo, hlo⟩ : ∃ lo, min a b = lo := ⟨_, rfl⟩
 obtain ⟨hi, hhi⟩ : ∃ hi, max a b = hi := ⟨_, rfl⟩
 have hlh : lo ≤ hi := by omega
 refine Ct.mk' func4 rfl rfl rfl (fun g R => ?_)
 try simp only [ca]
 simp only [na]
 repeat' (first | refine runS ?_ | refine WX.callQ rfl lable_ct rfl ?_ | fail)
 refine WX.call rfl (lmuch_ct hs hl fun a ha => (hz a ha).2) rfl ?_
 rintro _ _ ⟨b1, rfl, rfl, hmu⟩
 simp only [ca, na]
 cases b1 with
 | true =>
  try refine runS ?_
  exact D.fin1 [h0] _ rfl rfl ⟨rfl, rfl⟩
 | false =>
  have hmu := hmu rfl
  try refine runS ?_
  refine W.cutQ (α := Unit) (fun _ => True) (fun _ => [(0, .int .i64 dc), (1, .int .i64 rg), (2, .int .i64 nd), (3, .slice vp acts.length vc), (4, .int .i64 lo), (5, .int .i64 hi)]) (fun _ => [h0, R]) ?_ ?_
  ·by_cases hab : b < a
   ·obtain rfl : lo = b := by omega
    obtain rfl : hi = a := by omega
    try refine runS ?_
    exact D.atQ () trivial (by repeat (first | exact Fsub.nil | refine Fsub.cons rfl ?_)) (Hsub.of_picks inferInstance)
   ·obtain rfl : lo = a := by omega
    obtain rfl : hi = b := by omega
    try refine runS ?_
    exact D.atQ () trivial (by repeat (first | exact Fsub.nil | refine Fsub.cons rfl ?_)) (Hsub.of_picks inferInstance)
  rintro - -
  have j1 : -9223372036854775808 ≤ lo := by omega
  have j2 : lo ≤ 9223372036854775807 := by omega
  have i1 : -9223372036854775808 ≤ hi := by omega
  have i2 : hi ≤ 9223372036854775807 := by omega
  clear hlo hhi
  try refine runS ?_
  refine WX.call rfl (lgnew_ct dc rg nd) rfl ?_
  rintro _ _ ⟨bX, h1, rfl, rfl, m1⟩
  simp only [ca, na]
  try refine runS ?_
  refine WX.call rfl (lgnew_ct dc rg nd) rfl ?_
  rintro _ _ ⟨bY, h2, rfl, rfl, m2⟩
  simp only [ca, na]
  try refine runS ?_
  refine WX.call rfl (lgnew_ct dc rg nd) rfl ?_
  rintro _ _ ⟨bZ, h3, rfl, rfl, m3⟩
  simp only [ca, na]
  try refine runS ?_
  refine WX.call rfl (dgnew_ct dc rg nd) rfl ?_
  rintro _ _ ⟨bm, k1, rfl, rfl, n1⟩
  simp only [ca, na]
  try refine runS ?_
  refine WX.call rfl (dgnew_ct dc rg nd) rfl ?_
  rintro _ _ ⟨bn, k2, rfl, rfl, n2⟩
  simp only [ca, na]
  try refine runS ?_
  refine WX.call rfl (dgnew_ct dc rg nd) rfl ?_
  rintro _ _ ⟨bo, k3, rfl, rfl, n3⟩
  simp only [ca, na]
  try refine runS ?_
  refine W.loop (α := Nat × LSt × LSt × (Hp × Hp × Hp) × (Hp × Hp × Hp)) (fun x => x.1 ≤ acts.length ∧ x.2.1.ok (2 * (x.1 : Int)) ∧ x.2.2.1.ok (2 * (x.1 : Int)) ∧ (IsLg x.2.1 bX x.2.2.2.1.1 ∧ IsLg x.2.1 bY x.2.2.2.1.2.1 ∧ IsLg x.2.1 bZ x.2.2.2.1.2.2) ∧ IsDl x.2.2.1 bm (486 * (x.1 : Int)) x.2.2.2.2.1 ∧ IsDl x.2.2.1 bn (486 * (x.1 : Int)) x.2.2.2.2.2.1 ∧ IsDl x.2.2.1 bo (486 * (x.1 : Int)) x.2.2.2.2.2.2)
   (fun x => [(3, .slice vp acts.length vc), (4, .int .i64 lo), (5, .int .i64 hi), (13, .pointer (some ⟨bX, 0, none⟩)), (14, .pointer (some ⟨bY, 0, none⟩)), (15, .pointer (some ⟨bZ, 0, none⟩)), (16, .pointer (some ⟨bm, 0, none⟩)), (17, .pointer (some ⟨bn, 0, none⟩)), (18, .pointer (some ⟨bo, 0, none⟩)), (19, .int .i64 (x.1 : Int))])
   (fun x => [x.2.2.2.1.1, x.2.2.2.1.2.1, x.2.2.2.1.2.2, x.2.2.2.2.1, x.2.2.2.2.2.1, x.2.2.2.2.2.2, h0, R]) (fun x => acts.length - x.1)
   (0, .up [] (CS.new dc rg nd) 0, .up [] (CS.new dc rg nd) 0, (h1, h2, h3), k1, k2, k3) ⟨Nat.zero_le _, LI.nil dc rg nd, LI.nil dc rg nd, ⟨m1, m2, m3⟩, n1, n2, n3⟩ (by repeat (first | exact Fsub.nil | refine Fsub.cons rfl ?_)) (Hsub.of_picks inferInstance) ?_
  rintro ⟨i, sP, sD, ⟨px, py, pz⟩, qm, qn, qo⟩ ⟨hi', okP, okD, ⟨mx_, my, mz⟩, nm, nn, no⟩
  simp only [] at hi' okP okD mx_ my mz nm nn no ⊢
  by_cases hlt : i < acts.length
  ·obtain ⟨a, ha⟩ : ∃ a, acts[i]? = some a := ⟨_, List.getElem?_eq_getElem hlt⟩
   obtain ⟨⟨n1, n2⟩, -⟩ := hz a (mem_of_getElem? ha)
   obtain ⟨sP', sD', okP', okD', hA⟩ := act_step (T := 486 * (i : Int)) okP okD (by omega) (by omega) a n1 n2
   have e1 : 2 * (i : Int) + 2 = 2 * ((i + 1 : Nat) : Int) := by omega
   have e2 : 486 * (i : Int) + 486 = 486 * ((i + 1 : Nat) : Int) := by omega
   rw [e1] at okP' okD'
   repeat' (first | refine runS ?_ | refine WX.loadEW rfl hs ha rfl rfl ?_ | fail)
   refine WX.call rfl (hA (T0 := 486 * (i : Int)) (by omega) (Int.le_refl _) mx_ nm) rfl ?_
   rintro _ _ ⟨bo1, px', qm', rfl, rfl, mx', nm'⟩
   rw [e2] at nm'
   simp only [ca, na]
   repeat' (first | refine runS ?_ | refine WX.loadEW rfl hs ha rfl rfl ?_ | fail)
   refine WX.call rfl (hA (T0 := 486 * (i : Int)) (by omega) (Int.le_refl _) my nn) rfl ?_
   rintro _ _ ⟨bo2, py', qn', rfl, rfl, my', nn'⟩
   rw [e2] at nn'
   simp only [ca, na]
   repeat' (first | refine runS ?_ | refine WX.loadEW rfl hs ha rfl rfl ?_ | fail)
   refine WX.call rfl (hA (T0 := 486 * (i : Int)) (by omega) (Int.le_refl _) mz no) rfl ?_
   rintro _ _ ⟨bo3, pz', qo', rfl, rfl, mz', no'⟩
   rw [e2] at no'
   simp only [ca, na]
   try refine runS ?_
   exact D.rd (i + 1, sP', sD', (px', py', pz'), qm', qn', qo') ⟨by simp only []; omega, okP', okD', ⟨mx', my', mz'⟩, nm', nn', no'⟩ (by simp only []; omega)
  ·obtain rfl : i = acts.length := by omega
   clear nm nn no
   obtain ⟨s1, ok1, st1, g1⟩ := lgstart okP
   obtain ⟨l, c, t, rfl⟩ := st1.up
   have okc : CsOk c := ok1.ch
   have okl : LOk l := LgOk.ok (LI.lg ok1)
   have hcl := okc.len
   try refine runS ?_
   refine WX.call rfl (g1 mx_) rfl ?_
   rintro _ _ ⟨rfl, x1, rfl, mx1⟩
   simp only [ca, na]
   try refine runS ?_
   refine WX.call rfl (g1 my) rfl ?_
   rintro _ _ ⟨rfl, y1, rfl, my1⟩
   simp only [ca, na]
   try refine runS ?_
   refine WX.call rfl (g1 mz) rfl ?_
   rintro _ _ ⟨rfl, z1, rfl, mz1⟩
   obtain ⟨cb, d, w, u, hv, seg, tt, hk, rfl, a3⟩ := id mz1
   have hsl : IsSl 43 c.lg u hv := a3.sl
   have hdk : IsDk (dk l) d hk := a3.dk
   have hlo := clog_ct c cb hsl.rs (by omega)
   have hlz := lloose_ct okl bZ cb c.dc c.rg c.nd w hdk
   simp only [ca, na]
   refine WX.perm (H' := [LgBk bZ cb c.dc c.rg c.nd d w true, CsBk cb c u, hv, WBk w d seg tt, hk, y1, x1, qm, qn, qo, h0, R]) (List.Perm.of_eq (by simp [LSt.c0, LSt.ch, LSt.isUp])) ?_
   try refine runS ?_
   refine WX.call rfl hlo rfl ?_
   rintro vL _ ⟨hL, hsL, rfl⟩
   obtain ⟨pL, cL, rfl⟩ := hsL.rs.len
   simp only [ca, na]
   repeat' (first | refine runS ?_ | refine WX.callQ rfl hlz rfl ?_ | fail)
   have hub : looseB l ≤ 1099511627776 := by
    have h1 := loose_sum (l := l)
    have h2 := okl.used
    have h3 := looseN_eq l
    unfold DkS.looseN at h3
    omega
   have q4 := Ct.pack (pre' := [LgBk bZ cb c.dc c.rg c.nd d w true, CsBk cb c u, hv, WBk w d seg tt, hk]) (lgcrash_ct (keep := (looseB l : Int)) ok1 mz1 (by omega) (by omega)) (by simp [LSt.c0, LSt.ch, LSt.isUp]) (fun v H' p => ⟨H', rfl, p⟩)
   refine WX.call rfl (lgcrash_ct ok1 mx1 j1 j2) rfl ?_
   rintro _ _ ⟨rfl, x2, rfl, mx2⟩
   simp only [ca, na]
   try refine runS ?_
   refine WX.call rfl (lgcrash_ct ok1 my1 i1 i2) rfl ?_
   rintro _ _ ⟨rfl, y2, rfl, my2⟩
   simp only [ca, na]
   try refine runS ?_
   refine WX.call rfl q4 rfl ?_
   rintro _ _ ⟨rfl, z2, rfl, mz2⟩
   have kx : (LSt.dn l c lo.toNat).ok (2 * (acts.length : Int)) := ok1
   have ky : (LSt.dn l c hi.toNat).ok (2 * (acts.length : Int)) := ok1
   have kz : (LSt.dn l c (looseB l : Int).toNat).ok (2 * (acts.length : Int)) := ok1
   obtain ⟨sx, ox, stx, gx⟩ := lgstart kx
   obtain ⟨sy, oy, sty, gy_⟩ := lgstart ky
   obtain ⟨sz, oz, stz, gz⟩ := lgstart kz
   obtain ⟨lx, tx, rfl, fx, rx, jx, -, ux, -⟩ := start_dn kx stx
   obtain ⟨ly, ty, rfl, fy, ry, jy, -, uy, -⟩ := start_dn ky sty
   obtain ⟨lz, tz, rfl, fz, rz, jz, -, uz, tz0⟩ := start_dn kz stz
   have hmono := keptN_mono l okl.k (p := lo.toNat) (q := hi.toNat) (by omega)
   have hall := keptN_all l (q := (looseB l : Int).toNat) (by omega)
   have tz0 : tz = 0 := tz0 (by omega)
   subst tz0
   simp only [ca, na]
   try refine runS ?_
   refine WX.call rfl (gx mx2) rfl ?_
   rintro _ _ ⟨rfl, x3, rfl, mx3⟩
   simp only [ca, na]
   try refine runS ?_
   refine WX.call rfl (gy_ my2) rfl ?_
   rintro _ _ ⟨rfl, y3, rfl, my3⟩
   simp only [ca, na]
   try refine runS ?_
   refine WX.call rfl (gz mz2) rfl ?_
   rintro _ _ ⟨rfl, z3, rfl, mz3⟩
   simp only [ca, na]
   obtain ⟨cbx, dx, wx, vx, hvx, segx, ttx, hkx, e1, ax⟩ := id mx3
   obtain ⟨cby, dy, wy, vy, hvy, segy, tty, hky, e2, ay⟩ := id my3
   obtain ⟨cbz, dz, wz, vz, hvz, segz, ttz, hkz, e3, az⟩ := id mz3
   subst e1 e2 e3
   obtain rfl := az.tn _ _ _ rfl
   have okx := ox.ch
   have oky := oy.ch
   have okz := oz.ch
   have okx : CsOk (c.again (recs lx)) := okx
   have oky : CsOk (c.again (recs ly)) := oky
   have okz : CsOk (c.again (recs lz)) := okz
   have sx : IsSl 43 (c.again (recs lx)).lg vx hvx := ax.sl
   have sy : IsSl 43 (c.again (recs ly)).lg vy hvy := ay.sl
   have sz : IsSl 43 (c.again (recs lz)).lg vz hvz := az.sl
   have dkx : IsDk (dk lx) dx hkx := ax.dk
   have okfx : LOk lx := LgOk.ok (LI.lg ox)
   have qlx := lloose_ct okfx bX cbx (c.again (recs lx)).dc (c.again (recs lx)).rg (c.again (recs lx)).nd wx dkx
   rw [loose_full fx] at qlx
   have qtz := ltorn_ct bZ cbz (c.again (recs lz)).dc (c.again (recs lz)).rg (c.again (recs lz)).nd dz wz true segz 0
   have ezz : (c.again (recs lz)).lg = c.lg := by rw [jz, hall, Nat.sub_self, Nat.sub_zero, take_length]
   have exy : (c.again (recs lx)).lg = (c.again (recs ly)).lg.take (c.again (recs lx)).lg.length := by
    rw [jx, jy, length_take, take_take]; congr 1; omega
   have eyl : (c.again (recs ly)).lg = c.lg.take (c.again (recs ly)).lg.length := by
    rw [jy, length_take]; congr 1; omega
   have llx := okx.len
   have lly := oky.len
   have llz := okz.len
   generalize c.again (recs lx) = cx at *
   generalize c.again (recs ly) = cy at *
   generalize c.again (recs lz) = cz at *
   have hlx := clog_ct cx cbx sx.rs (by omega)
   have hly := clog_ct cy cby sy.rs (by omega)
   have hlz' := clog_ct cz cbz sz.rs (by omega)
   refine WX.perm (H' := [LgBk bZ cbz cz.dc cz.rg cz.nd dz wz true, CsBk cbz cz vz, hvz, WBk wz dz segz 0, hkz, LgBk bY cby cy.dc cy.rg cy.nd dy wy true, CsBk cby cy vy, hvy, WBk wy dy segy tty, hky, LgBk bX cbx cx.dc cx.rg cx.nd dx wx true, CsBk cbx cx vx, hvx, WBk wx dx segx ttx, hkx, hL, qm, qn, qo, h0, R]) (List.Perm.of_eq (by simp [LSt.c0, LSt.ch, LSt.isUp])) ?_
   try refine runS ?_
   refine W.mixT [true, true, true, true, false, true, true, true, true, false, false, true, true, true, true, true, false, true, false, true, true, true, true, true, true, false, true, false, true, true, true, false, true, true, true, true, false, true, true] [LgBk bZ cbz cz.dc cz.rg cz.nd dz wz true, LgBk bY cby cy.dc cy.rg cy.nd dy wy true, LgBk bX cbx cx.dc cx.rg cx.nd dx wx true] Tryz.mix (by kernel_rfl) ?_
   try refine runS ?_
   refine WX.call rfl hlx rfl ?_
   rintro v1 _ ⟨g1, s1, rfl⟩
   simp only [ca, na]
   try refine runS ?_
   refine WX.call rfl hly rfl ?_
   rintro v2 _ ⟨g2, s2, rfl⟩
   have p1 := prefix_ct s1.rs s2.rs exy (by omega)
   simp only [ca, na]
   repeat' (first | refine runS ?_ | refine WX.callQ rfl p1 rfl ?_ | fail)
   refine WX.call rfl hly rfl ?_
   rintro v3 _ ⟨g3, s3, rfl⟩
   have p2 := prefix_ct s3.rs hsL.rs eyl (by omega)
   simp only [ca, na]
   repeat' (first | refine runS ?_ | refine WX.callQ rfl p2 rfl ?_ | fail)
   refine WX.call rfl hlz' rfl ?_
   rintro v4 _ ⟨g4, s4, rfl⟩
   rw [ezz] at s4
   have p3 := entries_ct s4.rs hsL.rs (by omega)
   simp only [ca, na]
   repeat' (first | refine runS ?_ | refine WX.callQ rfl p3 rfl ?_ | refine WX.callQ rfl qtz rfl ?_ | refine WX.callQ rfl qlx rfl ?_ | fail)
   exact D.fin1 [h0] _ rfl rfl ⟨by simp, rfl⟩
theorem StartOf.at_up {l : List Lf} {c : CS} {t : Int} {s : LSt} (h : StartOf (.up l c t) s) : s = .up l c t := h
theorem start_same {l : List Lf} {c : CS} {N : Int} {q : Nat} {s : LSt} {rs : List Rec} (ok : (LSt.dn l (c.again rs) q).ok N) (hr : recs l = rs) (hf : ∀ f ∈ l, f.full = f) (h : StartOf (.dn l (c.again rs) q) s) : ∃ l' t', s = .up l' (c.again rs) t' := by
 obtain ⟨l', t', rfl, _, g2, _, g3, g4, _⟩ := start_dn ok h
 have h1 := sumK_full hf
 have hk : keptN l q = (recs l).length := by omega
 have h2 : recs l' = rs := by rw [g2, hk, take_length, hr]
 obtain ⟨i1, i2, i3⟩ := id_again c rs
 refine ⟨l', t', ?_⟩
 rw [h2]
 congr 1
 show CS.restore (c.again rs).dc (c.again rs).rg (c.again rs).nd (rbF (c.again rs).nd (outF rs)).x (rbF (c.again rs).nd (outF rs)).sn (rbF (c.again rs).nd (outF rs)).bs (rbF (c.again rs).nd (outF rs)).es = c.again rs
 rw [i1, i2, i3]; rfl
theorem lgloose_ct {l : List Lf} {c : CS} {t : Int} {b : Nat} {h : Hp} (ok : LOk l) (hm : IsLg (.up l c t) b h) : Ct prog 29 [.pointer (some ⟨b, 0, none⟩)] [h] (fun r H' => r = .int .i64 (looseB l : Int) ∧ H' = [h]) := by
 obtain ⟨cb, d, w, u, hv, seg, tt, hk, rfl, a⟩ := hm
 have h1 := (lloose_ct ok b cb c.dc c.rg c.nd w (show IsDk (dk l) d hk from a.dk)).frame (F := [CsBk cb c u, hv, WBk w d seg tt]) (post' := fun r H' => r = .int .i64 (looseB l : Int) ∧ H' = [LgBk b cb c.dc c.rg c.nd d w true, hk, CsBk cb c u, hv, WBk w d seg tt]) (fun r H' ⟨h1, h2⟩ => ⟨h1, by rw [h2]; rfl⟩)
 have hp : ([LgBk b cb c.dc c.rg c.nd d w true, hk, CsBk cb c u, hv, WBk w d seg tt] : HH).flatten.Perm [LgBk b cb c.dc c.rg c.nd d w true, CsBk cb c u, hv, WBk w d seg tt, hk].flatten := List.Perm.flatten (.cons _ (perm_append_comm (l₁ := [hk]) (l₂ := [CsBk cb c u, hv, WBk w d seg tt])))
 exact (h1.perm (pre' := [LgBk b cb c.dc c.rg c.nd d w true, CsBk cb c u, hv, WBk w d seg tt, hk]) hp).packP (by simp [LSt.c0, LSt.ch, LSt.isUp]) (fun r H' ⟨e1, e2⟩ => ⟨[LgBk b cb c.dc c.rg c.nd d w true ++ (CsBk cb c u ++ (hv ++ (WBk w d seg tt ++ hk)))], [], by rw [e2]; exact List.Perm.trans (List.Perm.of_eq (by simp)) hp.symm, e1, rfl⟩)
theorem lgcrashD_ct {l : List Lf} {c : CS} {q : Nat} {b : Nat} {h : Hp} (hm : IsLg (.dn l c q) b h) (keep : Int) : Ct prog 21 [.pointer (some ⟨b, 0, none⟩), .int .i64 keep] [h] (fun r H' => r = .tuple #[] ∧ H' = [h]) :=
 hm.still fun cb d w => lcrashD_ct b cb c.dc c.rg c.nd d w keep
set_option maxRecDepth 10000 in
set_option maxHeartbeats 8000000 in
theorem ltwice_ct (dc rg nd : Int) {keep : Int} (hk1 : -9223372036854775808 ≤ keep) (hk2 : keep ≤ 9223372036854775807) {acts : List La} {v : Value} {h0 : Hp} (hs : Rs acts v h0) (hl : acts.length ≤ 1099511627776) (hz : ∀ a ∈ acts, LaOk a) :
  Ct prog 5 [.int .i64 dc, .int .i64 rg, .int .i64 nd, v, .int .i64 keep] [h0] (fun r H' => r = .bool true ∧ H' = [h0]) := by
 obtain ⟨vp, vc, rfl⟩ := hs.len
 refine Ct.mk' func5 rfl rfl rfl (fun g R => ?_)
 try simp only [ca]
 simp only [na]
 repeat' (first | refine runS ?_ | refine WX.callQ rfl lable_ct rfl ?_ | fail)
 refine WX.call rfl (lmuch_ct hs hl fun a ha => (hz a ha).2) rfl ?_
 rintro _ _ ⟨b1, rfl, rfl, hmu⟩
 simp only [ca, na]
 cases b1 with
 | true =>
  try refine runS ?_
  exact D.fin1 [h0] _ rfl rfl ⟨rfl, rfl⟩
 | false =>
  have hmu := hmu rfl
  try refine runS ?_
  refine WX.call rfl (lgnew_ct dc rg nd) rfl ?_
  rintro _ _ ⟨bX, h1, rfl, rfl, m1⟩
  simp only [ca, na]
  try refine runS ?_
  refine WX.call rfl (lgnew_ct dc rg nd) rfl ?_
  rintro _ _ ⟨bY, h2, rfl, rfl, m2⟩
  simp only [ca, na]
  try refine runS ?_
  refine WX.call rfl (dgnew_ct dc rg nd) rfl ?_
  rintro _ _ ⟨bm, k1, rfl, rfl, n1⟩
  simp only [ca, na]
  try refine runS ?_
  refine WX.call rfl (dgnew_ct dc rg nd) rfl ?_
  rintro _ _ ⟨bn, k2, rfl, rfl, n2⟩
  simp only [ca, na]
  try refine runS ?_
  refine W.loop (α := Nat × LSt × LSt × (Hp × Hp) × (Hp × Hp)) (fun x => x.1 ≤ acts.length ∧ x.2.1.ok (2 * (x.1 : Int)) ∧ x.2.2.1.ok (2 * (x.1 : Int)) ∧ (IsLg x.2.1 bX x.2.2.2.1.1 ∧ IsLg x.2.1 bY x.2.2.2.1.2) ∧ IsDl x.2.2.1 bm (486 * (x.1 : Int)) x.2.2.2.2.1 ∧ IsDl x.2.2.1 bn (486 * (x.1 : Int)) x.2.2.2.2.2)
   (fun x => [(3, .slice vp acts.length vc), (4, .int .i64 keep), (11, .pointer (some ⟨bX, 0, none⟩)), (12, .pointer (some ⟨bY, 0, none⟩)), (13, .pointer (some ⟨bm, 0, none⟩)), (14, .pointer (some ⟨bn, 0, none⟩)), (15, .int .i64 (x.1 : Int))])
   (fun x => [x.2.2.2.1.1, x.2.2.2.1.2, x.2.2.2.2.1, x.2.2.2.2.2, h0, R]) (fun x => acts.length - x.1)
   (0, .up [] (CS.new dc rg nd) 0, .up [] (CS.new dc rg nd) 0, (h1, h2), k1, k2) ⟨Nat.zero_le _, LI.nil dc rg nd, LI.nil dc rg nd, ⟨m1, m2⟩, n1, n2⟩ (by repeat (first | exact Fsub.nil | refine Fsub.cons rfl ?_)) (Hsub.of_picks inferInstance) ?_
  rintro ⟨i, sP, sD, ⟨px, py⟩, qm, qn⟩ ⟨hi', okP, okD, ⟨mx_, my⟩, nm, nn⟩
  simp only [] at hi' okP okD mx_ my nm nn ⊢
  by_cases hlt : i < acts.length
  ·obtain ⟨a, ha⟩ : ∃ a, acts[i]? = some a := ⟨_, List.getElem?_eq_getElem hlt⟩
   obtain ⟨⟨n1, n2⟩, -⟩ := hz a (mem_of_getElem? ha)
   obtain ⟨sP', sD', okP', okD', hA⟩ := act_step (T := 486 * (i : Int)) okP okD (by omega) (by omega) a n1 n2
   have e1 : 2 * (i : Int) + 2 = 2 * ((i + 1 : Nat) : Int) := by omega
   have e2 : 486 * (i : Int) + 486 = 486 * ((i + 1 : Nat) : Int) := by omega
   rw [e1] at okP' okD'
   repeat' (first | refine runS ?_ | refine WX.loadEW rfl hs ha rfl rfl ?_ | fail)
   refine WX.call rfl (hA (T0 := 486 * (i : Int)) (by omega) (Int.le_refl _) mx_ nm) rfl ?_
   rintro _ _ ⟨bo1, px', qm', rfl, rfl, mx', nm'⟩
   rw [e2] at nm'
   simp only [ca, na]
   repeat' (first | refine runS ?_ | refine WX.loadEW rfl hs ha rfl rfl ?_ | fail)
   refine WX.call rfl (hA (T0 := 486 * (i : Int)) (by omega) (Int.le_refl _) my nn) rfl ?_
   rintro _ _ ⟨bo2, py', qn', rfl, rfl, my', nn'⟩
   rw [e2] at nn'
   simp only [ca, na]
   try refine runS ?_
   exact D.rd (i + 1, sP', sD', (px', py'), qm', qn') ⟨by simp only []; omega, okP', okD', ⟨mx', my'⟩, nm', nn'⟩ (by simp only []; omega)
  ·obtain rfl : i = acts.length := by omega
   clear nm nn
   obtain ⟨s1, ok1, st1, g1⟩ := lgstart okP
   obtain ⟨l, c, t, rfl⟩ := st1.up
   obtain ⟨s1b, -, st1b, g1b⟩ := lgstart ok1
   obtain rfl := st1b.at_up
   have okc : CsOk c := ok1.ch
   have okl : LOk l := LgOk.ok (LI.lg ok1)
   have hcl := okc.len
   try refine runS ?_
   refine WX.call rfl (g1 mx_) rfl ?_
   rintro _ _ ⟨rfl, x1, rfl, mx1⟩
   have qx1 := lgloose_ct okl mx1
   simp only [ca, na]
   repeat' (first | refine runS ?_ | refine WX.callQ rfl qx1 rfl ?_ | fail)
   refine WX.call rfl (g1b mx1) rfl ?_
   rintro _ _ ⟨rfl, x2, rfl, mx2⟩
   have qx2 := lgloose_ct okl mx2
   simp only [ca, na]
   try refine runS ?_
   refine WX.call rfl (g1 my) rfl ?_
   rintro _ _ ⟨rfl, y2, rfl, my2⟩
   have hub : looseB l ≤ 1099511627776 := by
    have h1 := loose_sum (l := l)
    have h2 := okl.used
    have h3 := looseN_eq l
    unfold DkS.looseN at h3
    omega
   obtain ⟨cbx, dx, wx, vx, hvx, segx, ttx, hkx, e1, ax⟩ := id mx2
   obtain ⟨cby, dy, wy, vy, hvy, segy, tty, hky, e2, ay⟩ := id my2
   have sx : IsSl 43 c.lg vx hvx := ax.sl
   have sy : IsSl 43 c.lg vy hvy := ay.sl
   have hlx := clog_ct c cbx sx.rs (by omega)
   have hly := clog_ct c cby sy.rs (by omega)
   have e1 : x2 = LgBk bX cbx c.dc c.rg c.nd dx wx true ++ (CsBk cbx c vx ++ (hvx ++ (WBk wx dx segx ttx ++ hkx))) := e1
   have e2 : y2 = LgBk bY cby c.dc c.rg c.nd dy wy true ++ (CsBk cby c vy ++ (hvy ++ (WBk wy dy segy tty ++ hky))) := e2
   subst e1 e2
   have qx3 := Ct.pack (pre' := [LgBk bX cbx c.dc c.rg c.nd dx wx true, CsBk cbx c vx, hvx, WBk wx dx segx ttx, hkx]) qx2 (by simp) (post' := fun r H' => r = .int .i64 (looseB l : Int) ∧ H' = [LgBk bX cbx c.dc c.rg c.nd dx wx true, CsBk cbx c vx, hvx, WBk wx dx segx ttx, hkx]) (fun r H' ⟨h1, h2⟩ => ⟨[LgBk bX cbx c.dc c.rg c.nd dx wx true, CsBk cbx c vx, hvx, WBk wx dx segx ttx, hkx], by rw [h2]; simp, h1, rfl⟩)
   simp only [ca, na]
   refine WX.perm (H' := [LgBk bY cby c.dc c.rg c.nd dy wy true, CsBk cby c vy, hvy, WBk wy dy segy tty, hky, LgBk bX cbx c.dc c.rg c.nd dx wx true, CsBk cbx c vx, hvx, WBk wx dx segx ttx, hkx, qm, qn, h0, R]) (List.Perm.of_eq (by simp)) ?_
   try refine runS ?_
   refine W.mixT [true, false, true, true, true, true, true, true, true, false, true, true, true, true, false, false, true, true] [LgBk bY cby c.dc c.rg c.nd dy wy true, LgBk bX cbx c.dc c.rg c.nd dx wx true] Tryz.mix (by kernel_rfl) ?_
   repeat' (first | refine runS ?_ | refine WX.callQ rfl qx3 rfl ?_ | fail)
   refine WX.call rfl hlx rfl ?_
   rintro v1 _ ⟨gg1, t1, rfl⟩
   simp only [ca, na]
   try refine runS ?_
   refine WX.call rfl hly rfl ?_
   rintro v2 _ ⟨gg2, t2, rfl⟩
   have p1 := entries_ct t1.rs t2.rs (by omega)
   simp only [ca, na]
   repeat' (first | refine runS ?_ | refine WX.callQ rfl p1 rfl ?_ | fail)
   have kd : (LSt.dn l c keep.toNat).ok (2 * (acts.length : Int)) := ok1
   have qcx := Ct.pack (pre' := [LgBk bX cbx c.dc c.rg c.nd dx wx true, CsBk cbx c vx, hvx, WBk wx dx segx ttx, hkx]) (lgcrash_ct ok1 mx2 hk1 hk2) (by simp) (fun v H' p => ⟨H', rfl, p⟩)
   have qcy := Ct.pack (pre' := [LgBk bY cby c.dc c.rg c.nd dy wy true, CsBk cby c vy, hvy, WBk wy dy segy tty, hky]) (lgcrash_ct ok1 my2 hk1 hk2) (by simp) (fun v H' p => ⟨H', rfl, p⟩)
   refine WX.call rfl qcx rfl ?_
   rintro _ _ ⟨rfl, x3, rfl, mx3⟩
   have mx3 : IsLg (.dn l c keep.toNat) bX x3 := mx3
   simp only [ca, na]
   try refine runS ?_
   refine I.bin ?_
   refine WX.addW rfl rfl rfl ?_
   skip
   refine WX.call rfl (lgcrashD_ct mx3 _) rfl ?_
   rintro _ _ ⟨rfl, rfl⟩
   simp only [ca, na]
   try refine runS ?_
   refine WX.call rfl qcy rfl ?_
   rintro _ _ ⟨rfl, y3, rfl, my3⟩
   have my3 : IsLg (.dn l c keep.toNat) bY y3 := my3
   obtain ⟨s2, ok2, st2, g2⟩ := lgstart kd
   obtain ⟨l2, t2', rfl, f2, r2, -, -, -, -⟩ := start_dn kd st2
   obtain ⟨s2b, -, st2b, g2b⟩ := lgstart ok2
   obtain rfl := st2b.at_up
   have kd2 : (LSt.dn l2 (c.again (recs l2)) (0 : Int).toNat).ok (2 * (acts.length : Int)) := ok2
   obtain ⟨s3, ok3, st3, g3⟩ := lgstart kd2
   obtain ⟨l3, t3, rfl⟩ := start_same kd2 rfl f2 st3
   have okc2 : CsOk (c.again (recs l2)) := ok2.ch
   generalize c.again (recs l2) = c2 at *
   simp only [ca, na]
   try refine runS ?_
   refine WX.call rfl (g2 mx3) rfl ?_
   rintro _ _ ⟨rfl, x4, rfl, mx4⟩
   simp only [ca, na]
   try refine runS ?_
   refine WX.call rfl (g2 my3) rfl ?_
   rintro _ _ ⟨rfl, y4, rfl, my4⟩
   simp only [ca, na]
   try refine runS ?_
   refine WX.call rfl (g2b mx4) rfl ?_
   rintro _ _ ⟨rfl, x5, rfl, mx5⟩
   simp only [ca, na]
   try refine runS ?_
   refine WX.call rfl (lgcrash_ct ok2 mx5 (keep := 0) (by decide) (by decide)) rfl ?_
   rintro _ _ ⟨rfl, x6, rfl, mx6⟩
   have mx6 : IsLg (.dn l2 c2 (0 : Int).toNat) bX x6 := mx6
   simp only [ca, na]
   try refine runS ?_
   refine WX.call rfl (g3 mx6) rfl ?_
   rintro _ _ ⟨rfl, x7, rfl, mx7⟩
   obtain ⟨cp, dp, wp_, vp', hvp, segp, ttp, hkp, e3, ap⟩ := id mx7
   obtain ⟨cq, dq, wq, vq, hvq, segq, ttq, hkq, e4, aq⟩ := id my4
   have e3 : x7 = LgBk bX cp c2.dc c2.rg c2.nd dp wp_ true ++ (CsBk cp c2 vp' ++ (hvp ++ (WBk wp_ dp segp ttp ++ hkp))) := e3
   have e4 : y4 = LgBk bY cq c2.dc c2.rg c2.nd dq wq true ++ (CsBk cq c2 vq ++ (hvq ++ (WBk wq dq segq ttq ++ hkq))) := e4
   subst e3 e4
   have sp : IsSl 43 c2.lg vp' hvp := ap.sl
   have sq : IsSl 43 c2.lg vq hvq := aq.sl
   have hcl2 := okc2.len
   have hlp := clog_ct c2 cp sp.rs (by omega)
   have hlq := clog_ct c2 cq sq.rs (by omega)
   have hcp := cconfig_ct c2 cp vp'
   have hcq := cconfig_ct c2 cq vq
   have hsp := csince_ct c2 cp vp'
   have hsq := csince_ct c2 cq vq
   have hbp := cbase_ct c2 cp vp'
   have hbq := cbase_ct c2 cq vq
   have htp := cstab_ct c2 cp vp'
   have htq := cstab_ct c2 cq vq
   have hkc : cellsEq kCfg (cfO c2.co).enc (cfO c2.co).enc = some true := selfC rfl
   simp only [ca, na]
   refine WX.perm (H' := [LgBk bX cp c2.dc c2.rg c2.nd dp wp_ true, CsBk cp c2 vp', hvp, WBk wp_ dp segp ttp, hkp, LgBk bY cq c2.dc c2.rg c2.nd dq wq true, CsBk cq c2 vq, hvq, WBk wq dq segq ttq, hkq, gg2, gg1, qm, qn, h0, R]) (List.Perm.of_eq (by simp)) ?_
   try refine runS ?_
   refine W.mixT [true, true, true, true, false, true, true, true, true, false, false, true, true, true, true, true, false, true, true, true, true, false, true, true, true, true, true, true, true, false, true, true, true, true, false, true, true, true, true, true, true, true, false, true, true, true, true, false, true, true, true, true, true, true, true, false, true, true, true, true, false, true, true] [LgBk bX cp c2.dc c2.rg c2.nd dp wp_ true, LgBk bY cq c2.dc c2.rg c2.nd dq wq true] Tryz.mix (by kernel_rfl) ?_
   try refine runS ?_
   refine WX.call rfl hlp rfl ?_
   rintro v3 _ ⟨gg3, t3', rfl⟩
   simp only [ca, na]
   try refine runS ?_
   refine WX.call rfl hlq rfl ?_
   rintro v4 _ ⟨gg4, t4', rfl⟩
   have p2 := entries_ct t3'.rs t4'.rs (by omega)
   simp only [ca, na]
   repeat' (first | refine runS ?_ | refine WX.callQ rfl p2 rfl ?_ | refine WX.callQ rfl hcp rfl ?_ | refine WX.callQ rfl hcq rfl ?_ | refine WX.callQ rfl hsp rfl ?_ | refine WX.callQ rfl hsq rfl ?_ | refine WX.callQ rfl hbp rfl ?_ | refine WX.callQ rfl hbq rfl ?_ | refine WX.callQ rfl htp rfl ?_ | refine WX.callQ rfl htq rfl ?_ | refine WX.eqlA rfl rfl hkc rfl ?_ | fail)
   exact D.fin1 [h0] _ rfl rfl ⟨by simp, rfl⟩
end Go.Proofs.YtejfahjgfedliaaGreat
