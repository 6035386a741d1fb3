/-
  Texts of one road, one behind the other.
-/
import Derived.Test.YtejfahjgfedliaaGreatQEa
import Derived.ProofKit
import Derived.SizedLaws
import Derived.ChangeCalls
import Derived.Deep.Slices
import Derived.OpenShut
import Derived.Test.YtejfahjgfedliaaGreatRows
import Derived.Test.YtejfahjgfedliaaGreatQEb
import Derived.Test.YtejfahjgfedliaaGreatQEc
set_option linter.unusedVariables false
set_option linter.unusedSimpArgs false
namespace Go.Sl
open Go List
def initHp (w : World) : Hp := w.heap.toList.zipIdx.map fun x => (x.2, x.1)
theorem initHp_mem {w : World} {b : Nat} {o : Obj} : (b, o) ∈ initHp w ↔ w.heap[b]? = some o := by
 unfold initHp
 rw [mem_map]
 constructor
 ·rintro ⟨⟨o', i⟩, hm, he⟩
  cases he
  have := mem_zipIdx hm
  simp at this
  obtain ⟨h1, h2⟩ := this
  rw [Array.getElem?_eq_getElem h1, h2]
 ·intro h
  refine ⟨(o, b), ?_, rfl⟩
  rw [mem_zipIdx_iff_getElem?]
  simpa using h
theorem initHp_on (w : World) : on w (initHp w) w := by
 refine ⟨Amb.refl w, ?_, fun b o h => initHp_mem.1 h⟩
 unfold initHp
 rw [map_map]
 have : (Prod.fst ∘ fun x : Obj × Nat => (x.2, x.1)) = Prod.snd := by funext x; rfl
 rw [this, zipIdx_map_snd]
 exact nodup_range'
theorem initHp_below {w w' : World} (h : on w (initHp w) w') : RowKit.Below w.heap.size w w' := by
 refine ⟨h.1.os, h.1.tape, h.1.output, h.1.size, fun k hk => ?_⟩
 have := h.2.2 k _ (initHp_mem.2 (Array.getElem?_eq_getElem hk))
 rw [this, Array.getElem?_eq_getElem hk]
theorem initHp_cell {w : World} {p : Addr} {u : Value} (h : w.cell? p = some u) {g w' : World} (ho : on g (initHp w) w') : w'.cell? p = some u := by
 unfold World.cell? at h ⊢
 cases hb : w.heap[p.block]? with
 | none => simp [hb] at h
 | some o =>
  rw [ho.2.2 _ _ (initHp_mem.2 hb)]
  rwa [hb] at h
def RsW {α : Type} [Enc α] (w : World) (xs : List α) (v : Value) : Prop :=
 ∃ a c, v = .slice a xs.length c ∧ xs.length ≤ c ∧ ∀ k y, xs[k]? = some y → ∃ b off, a = some ⟨b, off, none⟩ ∧ ∀ j u, (Enc.enc y)[j]? = some u → w.cell? ⟨b, off + (k * Enc.sz α + j), none⟩ = some u
theorem RsW.rs {α : Type} [Enc α] {w : World} {xs : List α} {v : Value} (h : RsW w xs v) : Rs xs v (initHp w) := by
 obtain ⟨a, c, e, le, f⟩ := h
 refine ⟨a, c, e, le, fun k y hk => ?_⟩
 obtain ⟨b, off, e1, e2⟩ := f k y hk
 exact ⟨b, off, e1, fun j u hu g w' ho => initHp_cell (e2 j u hu) ho⟩
def RdOk (P : Program) (t : Nat) (α : Type) [Enc α] (I : World → α → Prop) : Prop :=
 ∀ (H : Type) (enc : TypeId × Value → H) (w : World) (fuel : Nat) (cs : List Value) (x : DataW H × List MemPlace), DataW.trod enc P w 0 (fun _ => true) true fuel t cs = some x → (∀ l ∈ x.1.weights P t, l ≤ reachBytes) → ∃ y : α, cs = Enc.enc y ∧ I w y
def I64 (n : Int) : Prop := -9223372036854775808 ≤ n ∧ n ≤ 9223372036854775807
theorem rd_int {P : Program} {t : Nat} [ht : TU P t (.int .i64)] : RdOk P t Int (fun _ n => I64 n) := by
 intro H enc w fuel cs x h _
 obtain ⟨n, rfl, _, hw⟩ := DataW.trod_int ht.h h
 refine ⟨n, rfl, ?_⟩
 simp [Lit.wf, IntKind.min, IntKind.max, IntKind.signed, IntKind.bits] at hw
 exact hw
theorem rd_bool {P : Program} {t : Nat} [ht : TU P t .bool] : RdOk P t Bool (fun _ _ => True) := by
 intro H enc w fuel cs x h _
 obtain ⟨b, rfl, _⟩ := DataW.trod_bool ht.h h
 exact ⟨b, rfl, trivial⟩
theorem weights_slice {H : Type} {P : Program} {t e : Nat} [ht : TU P t (.slice e)] {elems spare : List (DataW H)} (h : ∀ l ∈ (DataW.slice elems spare).weights P t, l ≤ reachBytes) :
  elems.length * P.bytesOf e ≤ reachBytes ∧ ∀ d ∈ elems, ∀ l ∈ d.weights P e, l ≤ reachBytes := by
 simp only [DataW.weights, ht.h] at h
 constructor
 ·have := h _ (mem_cons_self)
  rw [Nat.add_mul] at this; omega
 ·intro d hd l hl
  refine h l (mem_cons_of_mem _ (mem_append_left _ ?_))
  clear h
  induction elems with
  | nil => cases hd
  | cons y r ih =>
   simp only [DataW.weightsAll]
   rcases mem_cons.1 hd with rfl | hd
   ·exact mem_append_left _ hl
   ·exact mem_append_right _ (ih hd)
theorem weights_each {H : Type} {P : Program} : ∀ {ts : List TypeId} {ds : List (DataW H)} {i : Nat} {t : TypeId} {d : DataW H}, (∀ l ∈ DataW.weightsEach P ts ds, l ≤ reachBytes) → ts[i]? = some t → ds[i]? = some d → ∀ l ∈ d.weights P t, l ≤ reachBytes
 | t :: ts, d :: ds, 0, _, _, h, h1, h2, l, hl => by
  cases h1; cases h2
  exact h l (by simp only [DataW.weightsEach]; exact mem_append_left _ hl)
 | t :: ts, d :: ds, i + 1, _, _, h, h1, h2, l, hl => weights_each (ts := ts) (ds := ds) (i := i) (fun l hl => h l (by simp only [DataW.weightsEach]; exact mem_append_right _ hl)) (by simpa using h1) (by simpa using h2) l hl
 | [], _, _, _, _, _, h1, _, _, _ => by cases h1
 | _ :: _, [], _, _, _, _, _, h2, _, _ => by cases h2
theorem rd_slice {P : Program} {t e : Nat} {α : Type} [E : Enc α] {I : World → α → Prop} [ht : TU P t (.slice e)] (hsz : P.cellsOf e = Enc.sz α) (he : RdOk P e α I) {H : Type} {enc : TypeId × Value → H} {w : World} {fuel : Nat} {v : Value} {x : DataW H × List MemPlace}
  (h : DataW.trod enc P w 0 (fun _ => true) true fuel t [v] = some x) (hwt : ∀ l ∈ x.1.weights P t, l ≤ reachBytes) :
  ∃ xs : List α, RsW w xs v ∧ (∀ y ∈ xs, I w y) ∧ xs.length * P.bytesOf e ≤ reachBytes := by
 rcases Deep.open_slice ht.h h with ⟨hc, rfl⟩ | ⟨a, len, cap, m, n, D, Pl, hc, _, hl, hm, hmm, rfl, hx⟩
 ·simp only [List.cons.injEq, and_true] at hc
  subst hc
  exact ⟨[], ⟨none, 0, rfl, Nat.le_refl _, (fun k y hk => by simp at hk)⟩, (fun y hy => by cases hy), by simp⟩
 ·simp only [List.cons.injEq, and_true] at hc
  subst hc
  simp only [if_true] at hmm
  obtain ⟨w1, w2⟩ := weights_slice hwt
  have key : ∀ i, i < len → ∃ y : α, w.cells? 0 (a.add (i * P.cellsOf e)) (P.cellsOf e) = some (Enc.enc y) ∧ I w y := fun i hi => by
   obtain ⟨cs', h1, h2⟩ := hx i (by omega)
   obtain ⟨y, rfl, hy⟩ := he H enc w n cs' _ h2 (w2 (D i) (mem_map.2 ⟨i, mem_range.2 hi, rfl⟩))
   exact ⟨y, h1, hy⟩
  have : ∃ xs : List α, xs.length = len ∧ ∀ i y, xs[i]? = some y → w.cells? 0 (a.add (i * P.cellsOf e)) (P.cellsOf e) = some (Enc.enc y) ∧ I w y := by
   clear w1 w2 hx hwt h hl hm hmm
   induction len with
   | zero => exact ⟨[], rfl, fun i y h => by simp at h⟩
   | succ k ih =>
    obtain ⟨xs, h1, h2⟩ := ih (fun i hi => key i (by omega))
    obtain ⟨y, h3⟩ := key k (by omega)
    refine ⟨xs ++ [y], by simp [h1], fun i z hz => ?_⟩
    rcases Nat.lt_or_ge i k with hlt | hge
    ·exact h2 i z (by rwa [List.getElem?_append_left (by omega)] at hz)
    ·rw [List.getElem?_append_right (by omega)] at hz
     have hi : i - xs.length = 0 := by
      rcases Nat.eq_zero_or_pos (i - xs.length) with h | h
      ·exact h
      ·rw [List.getElem?_eq_none (by simp; omega)] at hz; cases hz
     rw [hi] at hz
     cases hz
     rw [show i = k by omega]
     exact h3
  obtain ⟨xs, rfl, h2⟩ := this
  refine ⟨xs, ⟨some a, cap, rfl, hl, fun k y hk => ?_⟩, fun y hy => ?_, ?_⟩
  ·obtain ⟨h3, _⟩ := h2 k y hk
   rw [hsz] at h3
   obtain ⟨_, hlen, hcell⟩ := World.cells?_some h3
   obtain ⟨b, off, spot⟩ := a
   have hp := Enc.pos (α := α)
   have hlt := (List.getElem?_eq_some_iff.1 hk).1
   have hspot : spot = none := by
    obtain ⟨h4, _⟩ := h2 0 xs[0] (List.getElem?_eq_getElem (by omega))
    rw [hsz] at h4
    obtain ⟨_, hlen0, hcell0⟩ := World.cells?_some h4
    have h5 := hcell0 0 hp
    rw [List.getElem?_eq_getElem (by omega)] at h5
    have := World.cell?_spot h5
    simpa [Addr.add] using this
   subst hspot
   refine ⟨b, off, rfl, fun j u hu => ?_⟩
   have hj : j < Enc.sz α := by have := (List.getElem?_eq_some_iff.1 hu).1; rwa [Enc.len] at this
   have := hcell j hj
   rw [hu, add_none, add_none] at this
   rwa [Nat.add_assoc] at this
  ·obtain ⟨k, hk⟩ := mem_iff_getElem?.1 hy
   exact (h2 k y hk).2
  ·simpa using w1
section args
variable {H : Type} {enc : TypeId × Value → H} {P : Program} {W : World} {r : Reach} {base t e : Nat} {v : Value} {d : DataW H} {p : List MemPlace}
theorem arg_int [ht : TU P t (.int .i64)] (hv : Value.okWide P W r base t v) (h : DataW.Trod enc P W 0 (fun _ => true) true t v d p) : ∃ n, v = .int .i64 n ∧ I64 n := by
 obtain ⟨x, rfl, _, _, hw⟩ := ChangeShapes.open_int ht.h hv h
 refine ⟨x, rfl, ?_⟩
 simp [Lit.wf, IntKind.min, IntKind.max, IntKind.signed, IntKind.bits] at hw
 exact hw
theorem arg_slice {α : Type} [E : Enc α] {I : World → α → Prop} [ht : TU P t (.slice e)] (hsz : P.cellsOf e = Enc.sz α) (he : RdOk P e α I) (hv : Value.okWide P W r base t v) (h : DataW.Trod enc P W 0 (fun _ => true) true t v d p)
  (hwt : ∀ l ∈ d.weights P t, l ≤ reachBytes) : ∃ xs : List α, RsW W xs v ∧ (∀ y ∈ xs, I W y) ∧ xs.length * P.bytesOf e ≤ reachBytes := by
 obtain ⟨a, len, cap, rfl⟩ := WideShapes.okWide_slice ht.h hv
 obtain ⟨fuel, hf⟩ := h
 exact rd_slice (x := (d, p)) hsz he hf hwt
end args
theorem law_calls {P : Program} {f : FuncId} {args : List Value} {W : World} (h : Ct P f args [initHp W] (fun r H' => r = .bool true ∧ H' = [initHp W])) :
  Calls P f args.toArray W fun e W' => e = .returned (.bool true) ∧ RowKit.Below W.heap.size W W' :=
 (h.calls W [] W (by simpa using initHp_on W)).mono fun e W' ⟨v, H', he, ⟨h1, h2⟩, ho⟩ => by
  subst h1; subst h2
  exact ⟨he, initHp_below (by simpa using ho)⟩
theorem law_lifted {C : Checked} {os : Os} {f : FuncId} {fn : Func} {s : ChangeSpec} {H : Type} {enc : TypeId × Value → H} {tb : TypeId}
  (own : ownKnob C.prog.godebug = none) (started : os.Started) (noInit : C.prog.inits.idxOf? f = none) (hfn : C.prog.funcs[f]? = some fn)
  (witness : ∃ (w : World) (tape : Tape) (i : Input), w.os = os ∧ (w.forCall tape i).Shaped C.prog ∧ i.vars = [] ∧ Input.okWide C.prog (w.forCall tape i) .any w.heap.size f i ∧
   s.pre6 enc C.prog fn [] false (w.forCall tape i).memory i.args ∧ ({} : Assume).holds C.prog (lone (Frame.enter C.prog f i.args .normal) [] (w.forCall tape i)))
  (hlaid : laidOutB C.prog = true) (hpar0 : (fn.params.toList.all fun t => C.prog.readableRec t && Nat.blt t C.prog.types.size) = true)
  (hres : fn.resultTypes = #[tb]) (htb : C.prog.underlying tb = some .bool) (hvars : s.vars = [])
  (hspec : ∀ (ds : List (DataW H)), ds.length = fn.params.size → (s.fn H (ds ++ [])).results = [.lit (.bool true)] ∧ (s.fn H (ds ++ [])).args = ds ∧ (s.fn H (ds ++ [])).vars = [])
  (hrun : ∀ (W : World) (base : Nat) (args : Array Value) (ds : List (DataW H)) (p : List MemPlace), (∀ (j : Nat) t v, fn.params[j]? = some t → args[j]? = some v → Value.okWide C.prog W .any base t v) → DataW.TrodAll enc C.prog W 0 (fun _ => true) true fn.params.toList args.toList ds p →
   (∀ l ∈ DataW.weightsEach C.prog fn.params.toList ds, l ≤ reachBytes) → Calls C.prog f args W fun e W' => e = .returned (.bool true) ∧ RowKit.Below W.heap.size W W') :
  ReturnsInHanded {} C os f .any (s.pre6 enc C.prog fn [] false) (s.post enc C.prog fn false true false false) := by
 have hpar : ∀ t ∈ fn.params.toList, C.prog.readableRec t = true ∧ t < C.prog.types.size := fun t ht => by
  have := all_eq_true.1 hpar0 t ht
  simp only [Bool.and_eq_true] at this
  exact ⟨this.1, Nat.le_of_ble_eq_true this.2⟩
 refine returnsInHanded_of_change_sized own started noInit hfn witness ?_
 intro W base args ds gs before hval hW _ hsz _
 have hW' := hW
 obtain ⟨p, q, hA, hV, rfl, hfz, hnd⟩ := hW
 rw [hvars] at hV
 have hg : gs = [] ∧ q = [] := by
  cases gs with
  | nil => exact ⟨rfl, hV⟩
  | cons _ _ => exact hV.elim
 obtain ⟨rfl, rfl⟩ := hg
 have hvt : s.plain.varTypes C.prog = [] := by
  simp [ChangeSpec.plain, DataSpec.varTypes, hvars]
 have hwt : ∀ l ∈ DataW.weightsEach C.prog fn.params.toList ds, l ≤ reachBytes := by
  have h1 : (DataW.weightsEach C.prog (fn.params.toList ++ s.plain.varTypes C.prog) (ds ++ [])).all (· ≤ reachBytes) = true := hsz
  rw [hvt, append_nil, append_nil] at h1
  intro l hl
  simpa using all_eq_true.1 h1 l hl
 have hdl : ds.length = fn.params.size := by simpa using (trodAll_length hA).2
 obtain ⟨e1, e2, e3⟩ := hspec ds hdl
 refine (hrun W base args ds p hval hA hwt).mono fun e W' ⟨he, hb⟩ => ?_
 subst he
 have hargs : ∀ {ts : List TypeId} {vs : List Value} {ds : List (DataW H)} {p : List MemPlace}, (∀ t ∈ ts, C.prog.readableRec t = true ∧ t < C.prog.types.size) → DataW.TrodAll enc C.prog W 0 (fun _ => true) true ts vs ds p → (∀ x ∈ p, x.block < W.heap.size) →
   DataW.TrodAll enc C.prog W' 0 (fun b => decide (b < W.heap.size)) true ts vs ds p := by
  intro ts
  induction ts with
  | nil =>
   intro vs ds p _ h _
   cases vs <;> cases ds <;> first | exact h | exact h.elim
  | cons t ts ih =>
   intro vs ds p hp h hlt
   cases vs with
   | nil => exact h.elim
   | cons v vs =>
    cases ds with
    | nil => exact h.elim
    | cons d ds =>
     obtain ⟨p1, p2, h1, h2, rfl⟩ := h
     exact ⟨p1, p2, RowKit.Below.trod hlaid (hp t mem_cons_self).1 (hp t mem_cons_self).2 h1 hb (fun x hx => hlt x (mem_append_left _ hx)), ih (fun t ht => hp t (mem_cons_of_mem _ ht)) h2 (fun x hx => hlt x (mem_append_right _ hx)), rfl⟩
 have hlt : ∀ x ∈ p, x.block < W.heap.size := DataW.TrodAll.lt hA
 have hres' : fn.resultTypes.toList = [tb] := by rw [hres]
 have hres2 : fn.resultTypes.size = 1 := by rw [hres]; rfl
 refine ⟨_, rfl, ds, [], _, [], p, [], hW', ?_, ?_, ?_, hb.frame _, fun h => by cases h⟩
 ·rw [e1, hres', hres2]
  exact ⟨[], [], RowKit.shut_bool htb true, rfl, rfl⟩
 ·rw [e2]; exact hargs hpar hA hlt
 ·rw [hvars, e3]; rfl
end Go.Sl

namespace Go.Sl
open Go
section
variable {H : Type} {enc : TypeId × Value → H} {P : Program} {w : World} {t ft i off k : Nat} {ag : Bool} {cs : List Value} {v : Value}
def StOk {H : Type} (enc : TypeId × Value → H) (P : Program) (w : World) (t : Nat) (cs : List Value) : Prop :=
 ∃ (fuel : Nat) (x : DataW H × List MemPlace), DataW.trod enc P w 0 (fun _ => true) true fuel t cs = some x ∧ ∀ l ∈ x.1.weights P t, l ≤ reachBytes
theorem TL.cellsOf (h : TL P t k ag) : P.cellsOf t = k := by
 obtain ⟨s, _⟩ := h
 unfold Program.cellsOf
 rw [s]; rfl
theorem StOk.len [ft' : TFt P t i off ft] [tl : TL P t k ag] (h : StOk enc P w t cs) : cs.length = k := by
 obtain ⟨fuel, x, hx, _⟩ := h
 obtain ⟨fs, fd, hu, _⟩ := ft'.h
 obtain ⟨xs, n, _, _, hl, _⟩ := DataW.trod_struct hu hx
 rw [hl, tl.cellsOf]
theorem StOk.field (i : Nat) [ft' : TFt P t i off ft] [tl : TL P ft k ag] (h : StOk enc P w t cs) : StOk enc P w ft ((cs.drop off).take k) := by
 obtain ⟨fuel, x, hx, hw⟩ := h
 obtain ⟨fs, fd, hu, hf, rfl, rfl⟩ := ft'.h
 obtain ⟨xs, n, _, rfl, hl, hlen, hfs⟩ := DataW.trod_struct hu hx
 have h1 := hfs i fd hf
 have hi : i < xs.length := by rw [hlen]; exact (Array.getElem?_eq_some_iff.1 hf).1
 rw [List.getElem?_eq_getElem hi, tl.cellsOf] at h1
 refine ⟨n, xs[i], h1, ?_⟩
 simp only [DataW.weights, hu] at hw
 exact weights_each hw (i := i) (by rw [List.getElem?_map, Array.getElem?_toList, hf]; rfl) (by rw [List.getElem?_map, List.getElem?_eq_getElem hi]; rfl)
theorem StOk.rd {α : Type} [Enc α] {I : World → α → Prop} (hr : RdOk P t α I) (h : StOk enc P w t cs) : ∃ y : α, cs = Enc.enc y ∧ I w y := by
 obtain ⟨fuel, x, hx, hw⟩ := h
 exact hr H enc w fuel cs x hx hw
theorem StOk.int [ht : TU P t (.int .i64)] (h : StOk enc P w t cs) : ∃ n, cs = [.int .i64 n] ∧ I64 n := h.rd rd_int
theorem StOk.bool [ht : TU P t .bool] (h : StOk enc P w t cs) : ∃ b, cs = [.bool b] := let ⟨b, h1, _⟩ := h.rd rd_bool; ⟨b, h1⟩
theorem rd_of {α : Type} [Enc α] {I : World → α → Prop} (h : ∀ (H : Type) (enc : TypeId × Value → H) (w : World) (cs : List Value), StOk enc P w t cs → ∃ y : α, cs = Enc.enc y ∧ I w y) : RdOk P t α I :=
 fun H enc w fuel cs x hx hw => h H enc w cs ⟨fuel, x, hx, hw⟩
end
section
variable {H : Type} {enc : TypeId × Value → H} {P : Program} {w : World} {t e n k : Nat} {ag : Bool} {cs : List Value} {v : Value}
theorem StOk.string [ht : TU P t .string] (h : StOk enc P w t cs) : ∃ s : ByteArray, cs = [.string s] ∧ s.data.toList.length ≤ reachBytes := by
 obtain ⟨fuel, x, hx, hw⟩ := h
 obtain ⟨s, rfl, rfl, _⟩ := DataW.trod_string ht.h hx
 refine ⟨s, rfl, hw _ ?_⟩
 simp [DataW.weights]
end
end Go.Sl

namespace Go.Proofs.YtejfahjgfedliaaGreat
open Go Go.Sl Go.Proofs.Tryz
theorem Tryz.own : ownKnob prog.godebug = none := by kernel_rfl
theorem Tryz.laidOut : laidOutB prog = true := by kernel_rfl
end Go.Proofs.YtejfahjgfedliaaGreat

namespace Go.Proofs.YtejfahjgfedliaaGreat
open Go Go.Sl Go.Proofs.Tryz List
theorem rbit {s y : Nat} : crcD (s ^^^ y) = (if (s ^^^ y) &&& 1 = 1 then (s / 2 ^ 1) ^^^ 3988292384 else s / 2 ^ 1) ^^^ (y / 2) := by
 have h : (s ^^^ y) / 2 ^ 1 = (s / 2 ^ 1) ^^^ (y / 2) := Nat.xor_div_two
 unfold crcD
 rw [h]
 split
 ·rw [Nat.xor_assoc, Nat.xor_assoc, Nat.xor_comm (y / 2)]
 ·rfl
set_option maxHeartbeats 1000000 in
theorem rbits_ct {r : Nat} (hr : r < 4294967296) (x : UInt8) : Ct prog 231 [.int .u32 (r : Int), .int .u8 (x.toNat : Int)] [] (fun v H' => v = .int .u32 (crcB r x : Int) ∧ H' = []) := by
 have hx := byte_lt x
 refine Ct.mk' func231 rfl rfl rfl (fun g R => ?_)
 try simp only [ca]
 simp only [na]
 try refine run ?_
 refine W.loop (α := Nat × Nat) (fun y => y.1 ≤ 8 ∧ y.2 < 4294967296 ∧ crcI y.1 (r ^^^ x.toNat) = y.2 ^^^ (x.toNat / 2 ^ y.1)) (fun y => [(0, .int .u32 (y.2 : Int)), (1, .int .u8 (x.toNat : Int)), (5, .int .i64 (y.1 : Int))]) (fun _ => [R]) (fun y => 8 - y.1) (0, r) ⟨Nat.zero_le _, hr, by simp only [Nat.pow_zero, Nat.div_one]; rfl⟩ (by repeat (first | exact Fsub.nil | refine Fsub.cons rfl ?_)) (Hsub.of_picks inferInstance) ?_
 rintro ⟨i, s⟩ ⟨hi, hs, he⟩
 simp only [] at hi hs he ⊢
 by_cases hi8 : i < 8
 ·have hq : x.toNat / 2 ^ i ≤ x.toNat := Nat.div_le_self _ _
  have hxs : s ^^^ (x.toNat / 2 ^ i) < 4294967296 := xor_lt hs (by omega)
  have hn : crcI (i + 1) (r ^^^ x.toNat) = (if (s ^^^ (x.toNat / 2 ^ i)) &&& 1 = 1 then (s / 2 ^ 1) ^^^ 3988292384 else s / 2 ^ 1) ^^^ (x.toNat / 2 ^ (i + 1)) := by
   show crcD (crcI i (r ^^^ x.toNat)) = _
   have hq2 : x.toNat / 2 ^ i / 2 = x.toNat / 2 ^ (i + 1) := by rw [Nat.div_div_eq_div_mul, ← Nat.pow_succ]
   rw [he, rbit, hq2]
  have hi32 : i ≤ IntKind.u32.bits := by show i ≤ 32; omega
  by_cases hl : (s ^^^ (x.toNat / 2 ^ i)) &&& 1 = 1
  ·rw [if_pos hl] at hn
   repeat' (first | refine run ?_ | refine WX.conv rfl rfl (IntWalk.u32_in _ (by omega)) ?_ | refine WX.shrN (a := x.toNat) (m := i) rfl rfl hi32 rfl ?_ | refine WX.shrN (m := 1) rfl rfl (by decide) rfl ?_ | refine WX.xor32 (a := s) (b := x.toNat / 2 ^ i) rfl rfl hs (by omega) rfl ?_ | refine WX.and32 (a := s ^^^ (x.toNat / 2 ^ i)) (b := 1) rfl rfl hxs (by decide) rfl ?_ | refine WX.xor32 (b := 3988292384) rfl rfl (by omega) (by decide) rfl ?_ | fail)
   exact D.rd (i + 1, (s / 2 ^ 1) ^^^ 3988292384) ⟨by simp only []; omega, xor_lt (by omega) (by decide), hn⟩ (by simp only []; omega)
  ·rw [if_neg hl] at hn
   repeat' (first | refine run ?_ | refine WX.conv rfl rfl (IntWalk.u32_in _ (by omega)) ?_ | refine WX.shrN (a := x.toNat) (m := i) rfl rfl hi32 rfl ?_ | refine WX.shrN (m := 1) rfl rfl (by decide) rfl ?_ | refine WX.xor32 (a := s) (b := x.toNat / 2 ^ i) rfl rfl hs (by omega) rfl ?_ | refine WX.and32 (a := s ^^^ (x.toNat / 2 ^ i)) (b := 1) rfl rfl hxs (by decide) rfl ?_ | fail)
   exact D.rd (i + 1, s / 2 ^ 1) ⟨by simp only []; omega, by simp only []; omega, hn⟩ (by simp only []; omega)
 ·obtain rfl : i = 8 := by omega
  have h0 : x.toNat / 2 ^ 8 = 0 := Nat.div_eq_of_lt (by omega)
  rw [h0, Nat.xor_zero] at he
  try refine run ?_
  exact D.fin1 [] _ rfl rfl ⟨by rw [← he]; rfl, rfl⟩
theorem rmore_ct {bs : List UInt8} {v : Value} {h : Hp} (hb : Rs bs v h) (hl : bs.length ≤ 1099511627776) :
  Ct prog 192 [.int .u32 0, v] [h] (fun r H' => r = .int .u32 (crcS bs : Int) ∧ H' = [h]) := by
 have hs : (0 : Nat) < 4294967296 := by decide
 refine Ct.mk' func192 rfl rfl rfl (fun g R => ?_)
 try simp only [ca]
 simp only [na]
 repeat' (first | refine run ?_ | refine WX.com32 (a := 0) rfl hs rfl ?_ | fail)
 refine W.loop (α := Nat) (fun k => k ≤ bs.length) (fun k => [(1, v), (5, .int .u32 (((bs.take k).foldl crcB (4294967295 ^^^ 0) : Nat) : Int)), (6, .int .i64 (k : Int))]) (fun _ => [h, R]) (fun k => bs.length - k) 0 (Nat.zero_le _) (by repeat (first | exact Fsub.nil | refine Fsub.cons rfl ?_)) (Hsub.of_picks inferInstance) ?_
 intro k hk
 have hlt0 : (bs.take k).foldl crcB (4294967295 ^^^ 0) < 4294967296 := crcF_lt (xor_lt (by decide) hs)
 by_cases hlt : k < bs.length
 ·obtain ⟨x, hx⟩ : ∃ x, bs[k]? = some x := ⟨_, List.getElem?_eq_getElem hlt⟩
  obtain ⟨h1, h2⟩ := List.getElem?_eq_some_iff.1 hx
  have hnx : (bs.take (k + 1)).foldl crcB (4294967295 ^^^ 0) = crcB ((bs.take k).foldl crcB (4294967295 ^^^ 0)) x := by
   rw [take_succ_eq_append_getElem h1, h2, foldl_append]; rfl
  try refine run ?_
  refine WX.callQ rfl (rbits_ct hlt0 x) rfl ?_
  rw [← hnx]
  try refine run ?_
  exact D.rd (k + 1) (by omega) (by omega)
 ·obtain rfl : k = bs.length := by omega
  rw [take_length] at hlt0 ⊢
  repeat' (first | refine run ?_ | refine WX.com32 rfl hlt0 rfl ?_ | fail)
  exact D.fin1 [h] _ rfl rfl ⟨rfl, rfl⟩
end Go.Proofs.YtejfahjgfedliaaGreat

namespace Go.Proofs.YtejfahjgfedliaaGreat
open Go Go.Sl
def V9.ls (v : V9) : List Int := [v.a, v.b, v.c, v.d, v.e, v.f, v.g, v.h, v.i]
theorem V9.at9 (v : V9) {j : Nat} (h : j < 9) : ∃ x, v.ls[j]? = some x ∧ v.enc[j]? = some (.int .i64 x) := by
 have hl : v.ls.length = 9 := rfl
 have he : v.enc = v.ls.map (.int .i64) := rfl
 exact ⟨_, List.getElem?_eq_getElem (by omega), by rw [he, List.getElem?_map, List.getElem?_eq_getElem (by omega)]; rfl⟩
end Go.Proofs.YtejfahjgfedliaaGreat

namespace Go.Proofs.YtejfahjgfedliaaGreat
open Go Go.Sl Go.Proofs.Tryz List
abbrev IBk (o : Nat) (v : Value) (p : Nat) : Hp := [(o, .cells (List.toArray [v, .int .i64 (p : Int), .bool false]) 195 (0, 0))]
def IPost (o : Nat) (v : Value) (h : Hp) (p : Nat) (u : Value) : Value → HH → Prop := fun r H' => r = u ∧ H' = [IBk o v p, h]
set_option maxHeartbeats 1000000 in
theorem inext_ct {B : List UInt8} {v : Value} {h : Hp} (hr : Rs B v h) {p : Nat} {x : UInt8} (hx : B[p]? = some x) (hl : B.length ≤ 1099511627776) {o : Nat} :
  Ct prog 193 [.pointer (some ⟨o, 0, none⟩)] [IBk o v p, h] (IPost o v h (p + 1) (.int .u8 (x.toNat : Int))) := by
 have hlt := (List.getElem?_eq_some_iff.1 hx).1
 obtain ⟨q, c, rfl⟩ := hr.len
 have hx' : B[((p : Int) + 1 - 1).toNat]? = some x := by rw [show ((p : Int) + 1 - 1).toNat = p by omega]; exact hx
 refine Ct.mk' func193 rfl rfl rfl (fun g R => ?_)
 try simp only [ca]
 simp only [na]
 try refine run ?_
 refine W.quiet Tryz.mix (by kernel_rfl) ?_
 try refine run ?_
 refine W.quiet Tryz.mix (by kernel_rfl) ?_
 try refine run ?_
 refine D.hp (H' := [IBk o (.slice q B.length c) (p + 1), h, R]) rfl ?_
 exact D.fin1 [IBk o (.slice q B.length c) (p + 1), h] _ rfl rfl ⟨rfl, rfl⟩
theorem and127 (x : Nat) : x &&& 127 = x % 128 := Nat.and_two_pow_sub_one_eq_mod x 7
set_option maxRecDepth 20000 in
set_option maxHeartbeats 2000000 in
theorem inum_ct {B : List UInt8} {v : Value} {h : Hp} (hs : Rs B v h) {n : Nat} (hn : n ≤ 4611686018427387904) {p : Nat} {rest : List UInt8} (hd : B.drop p = encN n ++ rest) (hl : B.length ≤ 1099511627776) {o : Nat} :
  Ct prog 149 [.pointer (some ⟨o, 0, none⟩)] [IBk o v p, h] (IPost o v h (p + (encN n).length) (.int .i64 (n : Int))) := by
 refine Ct.mk' func149 rfl rfl rfl (fun g R => ?_)
 try simp only [ca]
 simp only [na]
 try refine run ?_
 refine W.as 3 (.int .u64 ((n % 128 ^ 0 : Nat) : Int)) rfl (by rw [Nat.pow_zero, Nat.mod_one]; rfl) ?_
 refine W.loop (α := Nat) (fun i => i = 0 ∨ 1 ≤ n / 128 ^ i) (fun i => [(0, .pointer (some ⟨o, 0, none⟩)), (3, .int .u64 ((n % 128 ^ i : Nat) : Int)), (4, .int .i64 (i : Int))]) (fun i => [IBk o v (p + i), h, R]) (fun i => 9 - i) 0 (.inl rfl) (by repeat (first | exact Fsub.nil | refine Fsub.cons rfl ?_)) (Hsub.of_picks inferInstance) ?_
 intro i hi
 have hi8 := le8 hn hi
 obtain ⟨pre, hpl, hpe⟩ := encN_at i n hi
 have hlen : (encN n).length = i + (encN (n / 128 ^ i)).length := by rw [hpe, length_append, hpl]
 have hdi : B.drop (p + i) = encN (n / 128 ^ i) ++ rest := by
  rw [← drop_drop, hd, hpe, append_assoc, drop_append_of_le_length (by omega), ← hpl, drop_length]; rfl
 have hpi : p + i < B.length := by
  have := congrArg List.length hdi
  rw [length_drop, length_append] at this
  have := encN_pos (n / 128 ^ i)
  omega
 have hmn : n % 128 ^ i ≤ n := Nat.mod_le _ _
 have hsu : n % 128 ^ (i + 1) = n % 128 ^ i + n / 128 ^ i % 128 * 2 ^ (7 * i) := by rw [pow128, Nat.pow_succ, Nat.mod_mul, Nat.mul_comm (128 ^ i)]
 have hmn1 : n % 128 ^ (i + 1) ≤ n := Nat.mod_le _ _
 have hb : n / 128 ^ i % 128 * 2 ^ (7 * i) ≤ 4611686018427387904 := by omega
 have h7 : 7 * i ≤ IntKind.u64.bits := by show 7 * i ≤ 64; omega
 generalize hm : n / 128 ^ i = m at *
 obtain ⟨x, hx⟩ : ∃ x, B[p + i]? = some x := ⟨_, List.getElem?_eq_getElem hpi⟩
 have hx0 : (encN m ++ rest)[0]? = some x := by rw [← hdi, List.getElem?_drop]; exact hx
 have hxb := byte_lt x
 have hxm : x.toNat % 128 = m % 128 ∧ (m < 128 → x.toNat = m) ∧ (¬ m < 128 → 128 ≤ x.toNat) := by
  by_cases hge : m < 128
  ·rw [encN_lt hge] at hx0
   have h1 : UInt8.ofNat m = x := by simpa using hx0
   have h2 : x.toNat = m := by rw [← h1, byte_ofNat (by omega)]
   exact ⟨by rw [h2], fun _ => h2, fun h => absurd hge h⟩
  ·rw [encN_ge hge] at hx0
   have h1 : UInt8.ofNat (128 + m % 128) = x := by simpa using hx0
   have h2 : x.toNat = 128 + m % 128 := by rw [← h1, byte_ofNat (by omega)]
   exact ⟨by omega, fun h => absurd h hge, fun _ => by omega⟩
 try refine run ?_
 refine WX.call rfl (inext_ct hs hx hl) rfl ?_
 rintro _ _ ⟨rfl, rfl⟩
 simp only [ca, na]
 repeat' (first | refine run ?_ | refine WX.and8 (b := 127) rfl rfl hxb (by decide) rfl ?_ | fail)
 refine WX.as 14 (.int .u8 ((m % 128 : Nat) : Int)) rfl (by rw [and127, hxm.1]) ?_
 refine WX.conv rfl rfl (IntWalk.u64_in _ (by omega)) ?_
 repeat' (first | refine run ?_ | refine WX.mul rfl rfl rfl (by omega) ?_ | fail)
 refine WX.as 17 (.int .i64 ((7 * i : Nat) : Int)) rfl (by congr 1) ?_
 refine WX.shlN rfl rfl h7 (IntWalk.u64_in _ ⟨Int.natCast_nonneg _, Int.le_trans (Int.ofNat_le.2 hb) (by decide)⟩) rfl ?_
 refine WX.addW rfl rfl rfl ?_
 refine WX.as 19 (.int .u64 ((n % 128 ^ (i + 1) : Nat) : Int)) rfl (by rw [← Int.natCast_add, ← hsu]; exact congrArg _ (IntWalk.u64_in _ (by omega))) ?_
 by_cases hge : m < 128
 ·have hx2 := hxm.2.1 hge
  have hnn : n % 128 ^ (i + 1) = n := by
   refine Nat.mod_eq_of_lt ?_
   rw [Nat.pow_succ, Nat.mul_comm, ← Nat.div_lt_iff_lt_mul (Nat.pow_pos (by decide)), hm]
   exact hge
  have hl1 : (encN n).length = i + 1 := by rw [hlen, encN_lt hge]; rfl
  rw [hl1, show p + (i + 1) = p + i + 1 from rfl]
  by_cases hm0 : m = 0
  ·have hi0 : i = 0 := by omega
   repeat' (first | refine run ?_ | refine WX.conv rfl rfl (IntWalk.i64_in _ (by omega)) ?_ | fail)
   exact D.fin1 [IBk o v (p + i + 1), h] _ rfl rfl ⟨by rw [hnn], rfl⟩
  ·skip
   repeat' (first | refine run ?_ | refine WX.conv rfl rfl (IntWalk.i64_in _ (by omega)) ?_ | fail)
   exact D.fin1 [IBk o v (p + i + 1), h] _ rfl rfl ⟨by rw [hnn], rfl⟩
 ·have hx2 := hxm.2.2 hge
  try refine run ?_
  exact D.rd (i + 1) (.inr (by rw [Nat.pow_succ, ← Nat.div_div_eq_div_mul, hm]; omega)) (by omega)
theorem itru_ct {B : List UInt8} {v : Value} {h : Hp} (hs : Rs B v h) {t : Bool} {p : Nat} {rest : List UInt8} (hd : B.drop p = encN (if t = true then 1 else 0) ++ rest) (hl : B.length ≤ 1099511627776) {o : Nat} :
  Ct prog 195 [.pointer (some ⟨o, 0, none⟩)] [IBk o v p, h] (IPost o v h (p + (encN (if t = true then 1 else 0)).length) (.bool t)) := by
 have hx : B[p]? = some (if t = true then 1 else 0) := by
  have : (B.drop p)[0]? = some (if t = true then 1 else 0) := by
   rw [hd]
   cases t
   ·rw [if_neg (by decide), encN_lt (by decide)]; rfl
   ·rw [if_pos rfl, encN_lt (by decide)]; rfl
  rwa [List.getElem?_drop] at this
 have hl1 : (encN (if t = true then 1 else 0)).length = 1 := by
  cases t
  ·rw [if_neg (by decide), encN_lt (by decide)]; rfl
  ·rw [if_pos rfl, encN_lt (by decide)]; rfl
 rw [hl1]
 refine Ct.mk' func195 rfl rfl rfl (fun g R => ?_)
 try simp only [ca]
 simp only [na]
 try refine run ?_
 refine WX.call rfl (inext_ct hs hx hl) rfl ?_
 rintro _ _ ⟨rfl, rfl⟩
 simp only [ca, na]
 cases t with
 | true =>
  rw [show (((if true = true then 1 else 0 : UInt8).toNat : Nat) : Int) = 1 from rfl]
  try refine run ?_
  exact D.fin1 [IBk o v (p + 1), h] _ rfl rfl ⟨rfl, rfl⟩
 | false =>
  rw [show (((if false = true then 1 else 0 : UInt8).toNat : Nat) : Int) = 0 from rfl]
  try refine run ?_
  exact D.fin1 [IBk o v (p + 1), h] _ rfl rfl ⟨rfl, rfl⟩
set_option maxHeartbeats 1000000 in
theorem itxt_ct {B : List UInt8} {v : Value} {h : Hp} (hs : Rs B v h) {s : ByteArray} {most : Nat} (hm : s.data.toList.length ≤ most) (hmost : most ≤ 1000) {p : Nat} {rest : List UInt8} (hd : B.drop p = (encN s.data.toList.length ++ s.data.toList) ++ rest) (hl : B.length ≤ 1099511627776) {o : Nat} :
  Ct prog 194 [.pointer (some ⟨o, 0, none⟩), .int .i64 (most : Int)] [IBk o v p, h] (IPost o v h (p + (encN s.data.toList.length ++ s.data.toList).length) (.string s)) := by
 rw [append_assoc] at hd
 rw [length_append]
 have hd2 : B.drop (p + (encN s.data.toList.length).length) = s.data.toList ++ rest := by
  rw [← drop_drop, hd, drop_left]
 have hle := congrArg List.length hd2
 rw [length_drop, length_append] at hle
 have hle0 := congrArg List.length hd
 rw [length_drop, length_append, length_append] at hle0
 have hpos := encN_pos s.data.toList.length
 obtain ⟨q, c, rfl⟩ := hs.len
 have hcap : B.length ≤ c := by obtain ⟨a, cc, e, le, _⟩ := id hs; cases e; exact le
 generalize hp1 : p + (encN s.data.toList.length).length = p1 at *
 have hrc : Rs s.data.toList (slCut (.slice q B.length c) 1 p1 (p1 + s.data.toList.length) c) h := by
  have := hs.cut (m := 1) (lo := p1) (hi := p1 + s.data.toList.length) (mx := c) rfl (by omega) (by omega) (by omega)
  rw [hd2, show p1 + s.data.toList.length - p1 = s.data.toList.length from by omega, take_left] at this
  exact this
 have hnum := inum_ct (o := o) hs (n := s.data.toList.length) (by omega) hd hl
 rw [hp1] at hnum
 generalize hz : s.data.toList.length = z at *
 refine Ct.mk' func194 rfl rfl rfl (fun g R => ?_)
 try simp only [ca]
 simp only [na]
 try refine run ?_
 refine WX.call rfl hnum rfl ?_
 rintro _ _ ⟨rfl, rfl⟩
 simp only [ca, na]
 try refine run ?_
 refine W.quiet Tryz.mix (by kernel_rfl) ?_
 try refine run ?_
 refine W.quiet Tryz.mix (by kernel_rfl) ?_
 try refine run ?_
 refine WX.as 52 (.int .i64 (p1 : Int)) rfl (by congr 1; omega) ?_
 refine WX.as 56 (.int .i64 ((p1 + z : Nat) : Int)) rfl rfl ?_
 refine WX.cut2 (lo := p1) (hi := p1 + z) rfl rfl rfl (by omega) (by omega) rfl ?_
 refine WX.strOf rfl hrc rfl ?_
 rw [strOf_data]
 try refine run ?_
 refine D.hp (H' := [IBk o (.slice q B.length c) (p1 + z), h, R]) rfl ?_
 exact D.fin1 [IBk o (.slice q B.length c) (p1 + z), h] _ rfl rfl ⟨rfl, by rw [← hp1, Nat.add_assoc]⟩
end Go.Proofs.YtejfahjgfedliaaGreat

namespace Go.Proofs.YtejfahjgfedliaaGreat
open Go Go.Sl Go.Proofs.Tryz
def Rd (B : List UInt8) : Nat → List (It × Value) → Nat → Prop
 | p, [], q => p = q
 | p, x :: l, q => ∃ b rest, encI x.1 x.2 = some b ∧ longI x.1 x.2 = false ∧ B.drop p = b ++ rest ∧ Rd B (p + b.length) l q
theorem Rd.split {B : List UInt8} : ∀ {l m : List (It × Value)} {p q : Nat}, Rd B p (l ++ m) q → ∃ s, Rd B p l s ∧ Rd B s m q
 | [], m, p, q, h => ⟨p, rfl, h⟩
 | x :: l, m, p, q, h => by
  obtain ⟨b, rest, h1, h2, h3, h4⟩ := h
  obtain ⟨s, h5, h6⟩ := Rd.split (l := l) h4
  exact ⟨s, ⟨b, rest, h1, h2, h3, h5⟩, h6⟩
section
variable {B : List UInt8} {v : Value} {h : Hp} {p o : Nat}
theorem inumI_ct (hs : Rs B v h) {n : Int} {b rest : List UInt8} {j : Nat} (he : encI (.num j) (.int .i64 n) = some b) (hd : B.drop p = b ++ rest) (hl : B.length ≤ 1099511627776) :
  Ct prog 149 [.pointer (some ⟨o, 0, none⟩)] [IBk o v p, h] (IPost o v h (p + b.length) (.int .i64 n)) := by
 have hne : ¬ (n < 0 ∨ 4611686018427387904 < n) := fun hc => by rw [encI_num, if_pos hc] at he; cases he
 have he : b = encN n.toNat := by rw [encI_num, if_neg hne] at he; exact (Option.some.inj he).symm
 subst he
 obtain ⟨m, rfl⟩ : ∃ m : Nat, n = (m : Int) := ⟨n.toNat, by omega⟩
 rw [Int.toNat_natCast] at hd ⊢
 exact inum_ct hs (by omega) hd hl
theorem itruI_ct (hs : Rs B v h) {t : Bool} {b rest : List UInt8} {j : Nat} (he : encI (.tru j) (.bool t) = some b) (hd : B.drop p = b ++ rest) (hl : B.length ≤ 1099511627776) :
  Ct prog 195 [.pointer (some ⟨o, 0, none⟩)] [IBk o v p, h] (IPost o v h (p + b.length) (.bool t)) := by
 have he : b = encN (if t = true then 1 else 0) := (Option.some.inj he).symm
 subst he
 exact itru_ct hs hd hl
theorem itxtI_ct (hs : Rs B v h) {s : ByteArray} {b rest : List UInt8} {j most : Nat} (hmost : most ≤ 1000) (he : encI (.txt j most) (.string s) = some b) (hg : longI (.txt j most) (.string s) = false) (hd : B.drop p = b ++ rest) (hl : B.length ≤ 1099511627776) :
  Ct prog 194 [.pointer (some ⟨o, 0, none⟩), .int .i64 (most : Int)] [IBk o v p, h] (IPost o v h (p + b.length) (.string s)) := by
 have he : b = encN s.data.toList.length ++ s.data.toList := (Option.some.inj he).symm
 have hm : ¬ most < s.data.toList.length := of_decide_eq_false hg
 subst he
 exact itxt_ct hs (by omega) hmost hd hl
end
set_option maxHeartbeats 1000000 in
theorem imem_ct {B : List UInt8} {v : Value} {h : Hp} (hs : Rs B v h) {p p' i j : Nat} {x y : Int} (hrd : Rd B p [(.num i, .int .i64 x), (.num j, .int .i64 y)] p') (hl : B.length ≤ 1099511627776) {o : Nat} :
  Ct prog 197 [.pointer (some ⟨o, 0, none⟩)] [IBk o v p, h] (IPost o v h p' (.agg #[.int .i64 x, .int .i64 y])) := by
 obtain ⟨b0, r0, e0, -, d0, b1, r1, e1, -, d1, rfl⟩ := hrd
 refine Ct.mk' func197 rfl rfl rfl (fun g R => ?_)
 try simp only [ca]
 simp only [na]
 repeat' (first | refine run ?_ | refine al (fun _ => ?_) | fail)
 rename_i b2 b3
 refine WX.call rfl (inumI_ct hs e0 d0 hl) rfl ?_
 rintro _ _ ⟨rfl, rfl⟩
 simp only [ca, na]
 try refine run ?_
 refine WX.call rfl (inumI_ct hs e1 d1 hl) rfl ?_
 rintro _ _ ⟨rfl, rfl⟩
 simp only [ca, na]
 try refine run ?_
 exact D.finR1 [IBk o v (p + b0.length + b1.length), h] _ rfl (.cellA rfl rfl .nil) ⟨rfl, rfl⟩
end Go.Proofs.YtejfahjgfedliaaGreat

namespace Go.Proofs.YtejfahjgfedliaaGreat
open Go Go.Sl Go.Proofs.Tryz List
def fillC (xs zs : List Value) (j : Nat) : List Value := xs.take j ++ zs.drop j
theorem fill_one {xs zs : List Value} {j : Nat} {x : Value} (hx : xs[j]? = some x) (hz : zs.length = xs.length) : (fillC xs zs j).set j x = fillC xs zs (j + 1) := by
 obtain ⟨h1, h2⟩ := List.getElem?_eq_some_iff.1 hx
 unfold fillC
 have h3 : (xs.take j).length = j := by rw [length_take]; omega
 rw [set_append_right _ _ (by omega), h3, Nat.sub_self, drop_eq_getElem_cons (by omega : j < zs.length), set_cons_zero, take_succ_eq_append_getElem h1, h2, append_assoc]
 rfl
theorem fill_len {xs zs : List Value} {j : Nat} (hz : zs.length = xs.length) (hj : j ≤ xs.length) : (fillC xs zs j).length = xs.length := by
 unfold fillC; rw [length_append, length_take, length_drop]; omega
def vItems (o : Nat) (d : V9) : List (It × Value) := (itsV o).zip d.enc
theorem vItems_drop {o : Nat} {d : V9} {j : Nat} {x : Int} (h : j < 9) (hx : d.enc[j]? = some (.int .i64 x)) : (vItems o d).drop j = (.num (o + j), .int .i64 x) :: (vItems o d).drop (j + 1) := by
 have hl : (vItems o d).length = 9 := rfl
 rw [drop_eq_getElem_cons (by omega)]
 congr 1
 have h1 : (vItems o d)[j]? = some (It.num (o + j), Value.int .i64 x) := by
  unfold vItems
  rw [List.getElem?_zip_eq_some]
  exact ⟨by unfold itsV; simp [h], hx⟩
 exact (List.getElem?_eq_some_iff.1 h1).2
set_option maxHeartbeats 1000000 in
theorem ivec_ct {B : List UInt8} {v : Value} {h : Hp} (hs : Rs B v h) {p p' k0 : Nat} {d : V9} (hrd : Rd B p (vItems k0 d) p') (hl : B.length ≤ 1099511627776) {o : Nat} :
  Ct prog 196 [.pointer (some ⟨o, 0, none⟩)] [IBk o v p, h] (IPost o v h p' (.agg d.enc.toArray)) := by
 have hzl : V9.z.enc.length = d.enc.length := rfl
 have hdl : d.enc.length = 9 := rfl
 refine Ct.mk' func196 rfl rfl rfl (fun g R => ?_)
 try simp only [ca]
 simp only [na]
 repeat' (first | refine run ?_ | refine al (fun _ => ?_) | fail)
 rename_i b2 b3
 refine W.hp (H' := [[(b3, .cells (fillC d.enc V9.z.enc (0 * 3 + 0)).toArray 37 (0, 0))], [(b2, .cells V9.z.enc.toArray 37 (0, 0))], IBk o v p, h, R]) rfl ?_
 refine W.loop (α := Nat × Nat) (fun x => x.1 ≤ 3 ∧ Rd B x.2 ((vItems k0 d).drop (x.1 * 3 + 0)) p') (fun x => [(0, .pointer (some ⟨o, 0, none⟩)), (2, .pointer (some ⟨b2, 0, none⟩)), (3, .pointer (some ⟨b3, 0, none⟩)), (4, .int .i64 (x.1 : Int))])
  (fun x => [[(b3, .cells (fillC d.enc V9.z.enc (x.1 * 3 + 0)).toArray 37 (0, 0))], [(b2, .cells V9.z.enc.toArray 37 (0, 0))], IBk o v x.2, h, R]) (fun x => 3 - x.1) (0, p) ⟨Nat.zero_le _, hrd⟩ (by repeat (first | exact Fsub.nil | refine Fsub.cons rfl ?_)) (Hsub.of_picks inferInstance) ?_
 rintro ⟨k, q⟩ ⟨hk, hq⟩
 simp only [] at hk hq ⊢
 by_cases hk3 : k < 3
 ·try refine run ?_
  refine W.loop (α := Nat × Nat) (fun x => x.1 ≤ 3 ∧ Rd B x.2 ((vItems k0 d).drop (k * 3 + x.1)) p') (fun x => [(0, .pointer (some ⟨o, 0, none⟩)), (2, .pointer (some ⟨b2, 0, none⟩)), (3, .pointer (some ⟨b3, 0, none⟩)), (4, .int .i64 (k : Int)), (5, .int .i64 (x.1 : Int))])
   (fun x => [[(b3, .cells (fillC d.enc V9.z.enc (k * 3 + x.1)).toArray 37 (0, 0))], [(b2, .cells V9.z.enc.toArray 37 (0, 0))], IBk o v x.2, h, R]) (fun x => 3 - x.1) (0, q) ⟨Nat.zero_le _, hq⟩ (by repeat (first | exact Fsub.nil | refine Fsub.cons rfl ?_)) (Hsub.of_picks inferInstance) ?_
  rintro ⟨r, s⟩ ⟨hr, hsr⟩
  simp only [] at hr hsr ⊢
  by_cases hr3 : r < 3
  ·obtain ⟨x, -, hx⟩ := d.at9 (j := k * 3 + r) (by omega)
   rw [vItems_drop (by omega) hx] at hsr
   obtain ⟨b, rest, e1, -, d1, hsr⟩ := hsr
   have hfl := fill_len (j := k * 3 + r) hzl (by omega)
   have hlt : Nat.blt (k * 3 + r) (fillC d.enc V9.z.enc (k * 3 + r)).length = true := Nat.ble_eq_true_of_le (by rw [hfl, hdl]; omega)
   have hf1 := fill_one hx hzl
   try refine run ?_
   refine W.mix [true, true, true, false, true, true, false] ([] : HH) Tryz.mix (by kernel_rfl) ?_
   try refine run ?_
   refine WX.call rfl (inumI_ct hs e1 d1 hl) rfl ?_
   rintro _ _ ⟨rfl, rfl⟩
   simp only [ca, na]
   try refine run ?_
   refine WX.as 19 (.pointer (some ⟨b3, k * 3 + r, none⟩)) rfl (by rw [Int.toNat_natCast, Int.toNat_natCast, Nat.mul_one, Nat.zero_add]) ?_
   refine I.st ?_
   refine WX.store (v := .int .i64 x) (b := b3) (i := k * 3 + r) (cs := fillC d.enc V9.z.enc (k * 3 + r)) rfl rfl rfl hlt ?_
   rw [hf1]
   try refine run ?_
   exact D.rd (r + 1, s + b.length) ⟨by simp only []; omega, hsr⟩ (by simp only []; omega)
  ·obtain rfl : r = 3 := by omega
   rw [show k * 3 + 3 = (k + 1) * 3 + 0 by omega] at hsr ⊢
   try refine run ?_
   exact D.rd (k + 1, s) ⟨by simp only []; omega, hsr⟩ (by simp only []; omega)
 ·obtain rfl : k = 3 := by omega
  have hq : q = p' := hq
  subst hq
  rw [show fillC d.enc V9.z.enc (3 * 3 + 0) = d.enc from rfl]
  try refine run ?_
  exact D.finR1 [IBk o v q, h] _ rfl (.cellA rfl rfl .nil) ⟨rfl, rfl⟩
def cItems (o : Nat) (c : Cfg) : List (It × Value) := (itsC o).zip c.enc
theorem cItems_mem (o : Nat) (c : Cfg) {i : Nat} (h : i < 4) : ∃ (m : Mem) (j k : Nat), (cItems o c).drop (2 + i * 2) = [(.num j, .int .i64 m.nd), (.num k, .int .i64 m.sn)] ++ (cItems o c).drop (2 + (i + 1) * 2) ∧ setAt (fillC c.enc Cfg.z.enc (2 + i * 2)) (2 + i * 2) [.int .i64 m.nd, .int .i64 m.sn] = fillC c.enc Cfg.z.enc (2 + (i + 1) * 2) := by
 match i, h with
 | 0, _ => exact ⟨c.f0, _, _, rfl, rfl⟩
 | 1, _ => exact ⟨c.f1, _, _, rfl, rfl⟩
 | 2, _ => exact ⟨c.f2, _, _, rfl, rfl⟩
 | 3, _ => exact ⟨c.f3, _, _, rfl, rfl⟩
set_option maxHeartbeats 2000000 in
theorem icfg_ct {B : List UInt8} {v : Value} {h : Hp} (hs : Rs B v h) {p p' k0 : Nat} {c : Cfg} (hrd : Rd B p (cItems k0 c) p') (hl : B.length ≤ 1099511627776) {o : Nat} :
  Ct prog 151 [.pointer (some ⟨o, 0, none⟩)] [IBk o v p, h] (IPost o v h p' (.agg c.enc.toArray)) := by
 have hzl : Cfg.z.enc.length = c.enc.length := rfl
 obtain ⟨b0, r0, e0, -, d0, b1, r1, e1, -, d1, hrd⟩ := hrd
 have hrd : Rd B (p + b0.length + b1.length) ((cItems k0 c).drop (2 + 0 * 2)) p' := hrd
 refine Ct.mk' func151 rfl rfl rfl (fun g R => ?_)
 try simp only [ca]
 simp only [na]
 repeat' (first | refine run ?_ | refine al (fun _ => ?_) | fail)
 rename_i b2 b3
 refine WX.hp (H' := [[(b3, .cells (fillC c.enc Cfg.z.enc 0).toArray 34 (0, 0))], [(b2, .cells Cfg.z.enc.toArray 34 (0, 0))], IBk o v p, h, R]) rfl ?_
 refine WX.call rfl (inumI_ct hs e0 d0 hl) rfl ?_
 rintro _ _ ⟨rfl, rfl⟩
 simp only [ca, na]
 repeat' (first | refine WX.store (v := .int .i64 c.ep) (b := b3) (i := 0) (cs := fillC c.enc Cfg.z.enc 0) rfl rfl rfl rfl ?_ | refine stp ?_ | fail)
 refine WX.hp (H' := [IBk o v (p + b0.length), h, [(b3, .cells (fillC c.enc Cfg.z.enc 1).toArray 34 (0, 0))], [(b2, .cells Cfg.z.enc.toArray 34 (0, 0))], R]) rfl ?_
 refine WX.call rfl (inumI_ct hs e1 d1 hl) rfl ?_
 rintro _ _ ⟨rfl, rfl⟩
 simp only [ca, na]
 repeat' (first | refine WX.store (v := .int .i64 c.n) (b := b3) (i := 1) (cs := fillC c.enc Cfg.z.enc 1) rfl rfl rfl rfl ?_ | refine stp ?_ | fail)
 refine W.hp (H' := [IBk o v (p + b0.length + b1.length), h, [(b3, .cells (fillC c.enc Cfg.z.enc (2 + 0 * 2)).toArray 34 (0, 0))], [(b2, .cells Cfg.z.enc.toArray 34 (0, 0))], R]) rfl ?_
 refine W.loop (α := Nat × Nat) (fun x => x.1 ≤ 4 ∧ Rd B x.2 ((cItems k0 c).drop (2 + x.1 * 2)) p') (fun x => [(0, .pointer (some ⟨o, 0, none⟩)), (2, .pointer (some ⟨b2, 0, none⟩)), (3, .pointer (some ⟨b3, 0, none⟩)), (4, .int .i64 (x.1 : Int))])
  (fun x => [IBk o v x.2, h, [(b3, .cells (fillC c.enc Cfg.z.enc (2 + x.1 * 2)).toArray 34 (0, 0))], [(b2, .cells Cfg.z.enc.toArray 34 (0, 0))], R]) (fun x => 4 - x.1) (0, p + b0.length + b1.length) ⟨Nat.zero_le _, hrd⟩ (by repeat (first | exact Fsub.nil | refine Fsub.cons rfl ?_)) (Hsub.of_picks inferInstance) ?_
 rintro ⟨i, q⟩ ⟨hi, hq⟩
 simp only [] at hi hq ⊢
 by_cases hi4 : i < 4
 ·obtain ⟨m, j, k, e2, e3⟩ := cItems_mem k0 c hi4
  rw [e2] at hq
  obtain ⟨s, hm, hq⟩ := hq.split
  have hfl := fill_len (j := 2 + i * 2) hzl (by rw [Cfg.len13]; omega)
  have hble : Nat.ble (2 + i * 2 + [Value.int .i64 m.nd, .int .i64 m.sn].length) (fillC c.enc Cfg.z.enc (2 + i * 2)).length = true := Nat.ble_eq_true_of_le (by rw [hfl, Cfg.len13]; simp only [length_cons, length_nil]; omega)
  try refine run ?_
  refine WX.call rfl (imem_ct hs hm hl) rfl ?_
  rintro _ _ ⟨rfl, rfl⟩
  simp only [ca, na]
  try refine run ?_
  refine WX.as 19 (.pointer (some ⟨b3, 2 + i * 2, none⟩)) rfl (by rw [Int.toNat_natCast, Nat.zero_add]) ?_
  refine I.st ?_
  refine WX.storeG (vs := [.int .i64 m.nd, .int .i64 m.sn]) (b := b3) (i := 2 + i * 2) (cs := fillC c.enc Cfg.z.enc (2 + i * 2)) rfl rfl rfl rfl rfl hble ?_
  rw [e3]
  try refine run ?_
  exact D.rd (i + 1, s) ⟨by simp only []; omega, hq⟩ (by simp only []; omega)
 ·obtain rfl : i = 4 := by omega
  obtain ⟨b4, r4, e4, -, d4, hq⟩ := hq
  have hq : Rd B (q + b4.length) [(.num (k0 + 11), .int .i64 c.le.nd), (.num (k0 + 12), .int .i64 c.le.sn)] p' := hq
  try refine run ?_
  refine WX.call rfl (itruI_ct hs e4 d4 hl) rfl ?_
  rintro _ _ ⟨rfl, rfl⟩
  simp only [ca, na]
  repeat' (first | refine WX.store (v := .bool c.jo) (b := b3) (i := 10) (cs := fillC c.enc Cfg.z.enc (2 + 4 * 2)) rfl rfl rfl rfl ?_ | refine stp ?_ | fail)
  refine WX.hp (H' := [IBk o v (q + b4.length), h, [(b3, .cells (fillC c.enc Cfg.z.enc 11).toArray 34 (0, 0))], [(b2, .cells Cfg.z.enc.toArray 34 (0, 0))], R]) rfl ?_
  refine WX.call rfl (imem_ct hs hq hl) rfl ?_
  rintro _ _ ⟨rfl, rfl⟩
  simp only [ca, na]
  repeat' (first | (refine I.st ?_; refine WX.storeG (vs := [.int .i64 c.le.nd, .int .i64 c.le.sn]) (b := b3) (i := 11) (cs := fillC c.enc Cfg.z.enc 11) rfl rfl rfl rfl rfl rfl ?_; refine WX.nil ?_) | refine stp ?_ | fail)
  refine D.hp (H' := [IBk o v p', h, [(b3, .cells c.enc.toArray 34 (0, 0))], [(b2, .cells c.enc.toArray 34 (0, 0))], R]) rfl ?_
  exact D.finR1 [IBk o v p', h] _ rfl (.cellA rfl rfl .nil) ⟨rfl, rfl⟩
def eItems (o : Nat) (e : Ent) : List (It × Value) := (itsW o).zip e.enc
set_option maxHeartbeats 4000000 in
theorem ient_ct {B : List UInt8} {v : Value} {h : Hp} (hs : Rs B v h) {p p' k0 : Nat} {e : Ent} (hrd : Rd B p (eItems k0 e) p') (hl : B.length ≤ 1099511627776) {o : Nat} :
  Ct prog 150 [.pointer (some ⟨o, 0, none⟩)] [IBk o v p, h] (IPost o v h p' (.agg e.enc.toArray)) := by
 have hzl : Ent.z.enc.length = e.enc.length := rfl
 obtain ⟨b0, r0, e0, -, d0, b1, r1, e1, -, d1, b2, r2, e2, -, d2, b3, r3, e3, -, d3, b4, r4, e4, -, d4, b5, r5, e5, -, d5, hrd⟩ := hrd
 obtain ⟨b6, r6, e6, g6, d6, b7, r7, e7, g7, d7, b8, r8, e8, -, d8, hrd⟩ := hrd
 generalize hq0 : p + b0.length + b1.length + b2.length + b3.length + b4.length + b5.length + b6.length + b7.length + b8.length = q9 at hrd
 have hrd : Rd B q9 (vItems (k0 + 9) e.dp ++ [(.num (k0 + 18), .int .i64 e.cl), (.num (k0 + 19), .int .i64 e.op)]) p' := hrd
 obtain ⟨q18, hrv, b18, r18, e18, -, d18, b19, r19, e19, -, d19, rfl⟩ := hrd.split
 refine Ct.mk' func150 rfl rfl rfl (fun g R => ?_)
 try simp only [ca]
 simp only [na]
 repeat' (first | refine run ?_ | refine al (fun _ => ?_) | fail)
 rename_i b2 b3
 refine WX.hp (H' := [[(b3, .cells (fillC e.enc Ent.z.enc 0).toArray 43 (0, 0))], [(b2, .cells Ent.z.enc.toArray 43 (0, 0))], IBk o v p, h, R]) rfl ?_
 refine WX.call rfl (inumI_ct hs e0 d0 hl) rfl ?_
 rintro _ _ ⟨rfl, rfl⟩
 simp only [ca, na]
 try refine run ?_
 refine WX.call rfl (inumI_ct hs e1 d1 hl) rfl ?_
 rintro _ _ ⟨rfl, rfl⟩
 simp only [ca, na]
 try refine run ?_
 refine WX.call rfl (inumI_ct hs e2 d2 hl) rfl ?_
 rintro _ _ ⟨rfl, rfl⟩
 simp only [ca, na]
 try refine run ?_
 refine WX.call rfl (inumI_ct hs e3 d3 hl) rfl ?_
 rintro _ _ ⟨rfl, rfl⟩
 simp only [ca, na]
 try refine run ?_
 refine WX.call rfl (inumI_ct hs e4 d4 hl) rfl ?_
 rintro _ _ ⟨rfl, rfl⟩
 simp only [ca, na]
 try refine run ?_
 refine WX.call rfl (inumI_ct hs e5 d5 hl) rfl ?_
 rintro _ _ ⟨rfl, rfl⟩
 simp only [ca, na]
 try refine run ?_
 refine WX.call rfl (itxtI_ct hs (most := 16) (by decide) e6 g6 d6 hl) rfl ?_
 rintro _ _ ⟨rfl, rfl⟩
 simp only [ca, na]
 try refine run ?_
 refine WX.call rfl (itxtI_ct hs (most := 32) (by decide) e7 g7 d7 hl) rfl ?_
 rintro _ _ ⟨rfl, rfl⟩
 simp only [ca, na]
 try refine run ?_
 refine WX.call rfl (itruI_ct hs e8 d8 hl) rfl ?_
 rintro _ _ ⟨rfl, rfl⟩
 simp only [ca, na]
 try refine run ?_
 rw [hq0]
 refine WX.hp (H' := [IBk o v q9, h, [(b3, .cells (fillC e.enc Ent.z.enc 9).toArray 43 (0, 0))], [(b2, .cells Ent.z.enc.toArray 43 (0, 0))], R]) rfl ?_
 refine WX.call rfl (ivec_ct hs hrv hl) rfl ?_
 rintro _ _ ⟨rfl, rfl⟩
 simp only [ca, na]
 repeat' (first | refine WX.storeG (vs := e.dp.enc) (b := b3) (i := 9) (cs := fillC e.enc Ent.z.enc 9) rfl rfl rfl rfl rfl rfl ?_ | refine stp ?_ | fail)
 refine WX.hp (H' := [IBk o v q18, h, [(b3, .cells (fillC e.enc Ent.z.enc 18).toArray 43 (0, 0))], [(b2, .cells Ent.z.enc.toArray 43 (0, 0))], R]) rfl ?_
 refine WX.call rfl (inumI_ct hs e18 d18 hl) rfl ?_
 rintro _ _ ⟨rfl, rfl⟩
 simp only [ca, na]
 try refine run ?_
 refine WX.call rfl (inumI_ct hs e19 d19 hl) rfl ?_
 rintro _ _ ⟨rfl, rfl⟩
 simp only [ca, na]
 try refine run ?_
 refine D.hp (H' := [IBk o v (q18 + b18.length + b19.length), h, [(b3, .cells e.enc.toArray 43 (0, 0))], [(b2, .cells e.enc.toArray 43 (0, 0))], R]) rfl ?_
 exact D.finR1 [IBk o v (q18 + b18.length + b19.length), h] _ rfl (.cellA rfl rfl .nil) ⟨rfl, rfl⟩
theorem frame_n256 {B : List UInt8} (h : B.length < 65536) : (UInt8.ofNat (B.length / 2 ^ 8)).toNat * 256 + (UInt8.ofNat B.length).toNat = B.length := by
 rw [byte_ofNat (by omega), UInt8.toNat_ofNat']
 omega
set_option maxRecDepth 20000 in
set_option maxHeartbeats 1000000 in
theorem obody_short {B xs : List UInt8} (hB : B.length < 65536) {k : Nat} (hk : k < (frame B).length) (hx : xs = (frame B).take k) {v : Value} {h : Hp} (hr : Rs xs v h) :
  Ct prog 148 [v] [h] (fun r H' => r = .tuple #[.slice none 0 0, .int .i64 0, .int .i64 40] ∧ H' = [h]) := by
 have hxl : xs.length = k := by rw [hx, length_take]; omega
 rw [frame_len] at hk
 refine Ct.mk' func148 rfl rfl rfl (fun g R => ?_)
 try simp only [ca]
 simp only [na]
 by_cases h2 : xs.length < 2
 ·try refine run ?_
  exact D.finR [h] _ rfl (.tmp rfl (.tmp rfl (.tmp rfl .nil))) rfl ⟨rfl, rfl⟩
 ·obtain ⟨x0, hx0⟩ : ∃ x, xs[(0 : Int).toNat]? = some x := ⟨_, List.getElem?_eq_getElem (by show 0 < xs.length; omega)⟩
  obtain ⟨x1, hx1⟩ : ∃ x, xs[(1 : Int).toNat]? = some x := ⟨_, List.getElem?_eq_getElem (by show 1 < xs.length; omega)⟩
  have e0 : x0 = UInt8.ofNat (B.length / 2 ^ 8) := by
   have hx0 : xs[0]? = some x0 := hx0
   rw [hx, List.getElem?_take_of_lt (by omega), frame_0] at hx0; exact (Option.some.inj hx0).symm
  have e1 : x1 = UInt8.ofNat B.length := by
   have hx1 : xs[1]? = some x1 := hx1
   rw [hx, List.getElem?_take_of_lt (by omega), frame_1] at hx1; exact (Option.some.inj hx1).symm
  have hn := frame_n256 hB
  rw [← e0, ← e1] at hn
  have hb0 := byte_lt x0
  have hb1 := byte_lt x1
  try refine run ?_
  refine W.quiet Tryz.mix (by kernel_rfl) ?_
  repeat' (first | refine run ?_ | refine WX.conv rfl rfl (IntWalk.i64_in _ (by omega)) ?_ | refine WX.mul rfl rfl rfl (by omega) ?_ | fail)
  exact D.finR [h] _ rfl (.tmp rfl (.tmp rfl (.tmp rfl .nil))) rfl ⟨rfl, rfl⟩
set_option maxRecDepth 20000 in
set_option maxHeartbeats 2000000 in
theorem obody_ok {B rest xs : List UInt8} (hB : B.length < 65536) (hx : xs = frame B ++ rest) {v : Value} {h : Hp} (hr : Rs xs v h) (hl : xs.length ≤ 1099511627776) :
  Ct prog 148 [v] [h] (fun r H' => ∃ u, r = .tuple #[u, .int .i64 ((B.length + 6 : Nat) : Int), .int .i64 0] ∧ H' = [h] ∧ Rs B u h) := by
 have hxl : xs.length = B.length + 6 + rest.length := by rw [hx, length_append, frame_len]
 obtain ⟨p, c, rfl⟩ := hr.len
 have hcap : xs.length ≤ c := by obtain ⟨a, cc, e, le, _⟩ := id hr; cases e; exact le
 have x0h : xs[(0 : Int).toNat]? = some (UInt8.ofNat (B.length / 2 ^ 8)) := by rw [hx]; rfl
 have x1h : xs[(1 : Int).toNat]? = some (UInt8.ofNat B.length) := by rw [hx]; rfl
 have hn := frame_n256 hB
 have hb0 := byte_lt (UInt8.ofNat (B.length / 2 ^ 8))
 have hb1 := byte_lt (UInt8.ofNat B.length)
 have hrB : Rs B (slCut (.slice p xs.length c) 1 2 (B.length + 2) c) h := by
  have := hr.cut (m := 1) (lo := 2) (hi := B.length + 2) (mx := c) rfl (by omega) (by omega) (by omega)
  rw [hx] at this
  rw [frame_B] at this
  rw [← hx] at this
  exact this
 have hrS : Rs (be32 (crcS B)) (slCut (.slice p xs.length c) 1 (B.length + 2) (B.length + 6) c) h := by
  have := hr.cut (m := 1) (lo := B.length + 2) (hi := B.length + 6) (mx := c) rfl (by omega) (by omega) (by omega)
  rw [hx] at this
  rw [frame_S] at this
  rw [← hx] at this
  exact this
 obtain ⟨q1, q2, q3, hq⟩ : ∃ q1 q2 q3, slCut (.slice p xs.length c) 1 2 (B.length + 2) c = .slice q1 q2 q3 := ⟨_, _, _, rfl⟩
 rw [hq] at hrB
 have hcl := crcS_lt B
 have s0 : (be32 (crcS B))[(0 : Int).toNat]? = some (UInt8.ofNat (crcS B / 2 ^ 24)) := rfl
 have s1 : (be32 (crcS B))[(1 : Int).toNat]? = some (UInt8.ofNat (crcS B / 2 ^ 16)) := rfl
 have s2 : (be32 (crcS B))[(2 : Int).toNat]? = some (UInt8.ofNat (crcS B / 2 ^ 8)) := rfl
 have s3 : (be32 (crcS B))[(3 : Int).toNat]? = some (UInt8.ofNat (crcS B)) := rfl
 refine Ct.mk' func148 rfl rfl rfl (fun g R => ?_)
 try simp only [ca]
 simp only [na]
 try refine run ?_
 refine W.quiet Tryz.mix (by kernel_rfl) ?_
 repeat' (first | refine run ?_ | refine WX.conv rfl rfl (IntWalk.i64_in _ (by omega)) ?_ | refine WX.mul rfl rfl rfl (by omega) ?_ | fail)
 refine WX.as 28 (.int .i64 ((B.length + 2 : Nat) : Int)) rfl (by congr 1; omega) ?_
 refine WX.cut2 (lo := 2) (hi := B.length + 2) rfl rfl rfl (by omega) (by omega) rfl ?_
 rw [hq]
 refine WX.callQ rfl (rmore_ct hrB (by omega)) rfl ?_
 try refine run ?_
 refine WX.as 33 (.int .i64 ((B.length + 2 : Nat) : Int)) rfl (by congr 1; omega) ?_
 refine WX.as 35 (.int .i64 ((B.length + 6 : Nat) : Int)) rfl (by congr 1; omega) ?_
 refine WX.cut2 (lo := B.length + 2) (hi := B.length + 6) rfl rfl rfl (by omega) (by omega) rfl ?_
 repeat' (first | refine run ?_ | refine WX.shrN (m := 24) rfl rfl (by decide) rfl ?_ | refine WX.shrN (m := 16) rfl rfl (by decide) rfl ?_ | refine WX.shrN (m := 8) rfl rfl (by decide) rfl ?_ | (refine WX.convW rfl rfl ?_; rw [u8_wrap]) | fail)
 refine WX.as 72 (.int .i64 ((B.length + 2 : Nat) : Int)) rfl (by congr 1; omega) ?_
 refine WX.cut2 (lo := 2) (hi := B.length + 2) rfl rfl rfl (by omega) (by omega) rfl ?_
 rw [hq]
 try refine run ?_
 refine D.as 3 (.int .i64 ((B.length + 6 : Nat) : Int)) rfl (by congr 1; omega) ?_
 exact D.finR [h] _ rfl (.tmp rfl (.tmp rfl (.tmp rfl .nil))) rfl ⟨_, rfl, rfl, hrB⟩
def itv (vs : List Value) (it : It) : It × Value := (it, (vs[it.o]?).getD (.bool false))
theorem rd_of {vs : List Value} {rest : List UInt8} : ∀ {its : List It} {pre B : List UInt8}, (∀ it ∈ its, ∃ u e, vs[it.o]? = some u ∧ encI it u = some e ∧ longI it u = false) → B = pre ++ (encs2 vs its ++ rest) → Rd B pre.length (its.map (itv vs)) (pre.length + (encs2 vs its).length) := by
 intro its
 induction its with
 | nil => intro pre B _ _; rfl
 | cons it t ih =>
  intro pre B h hB
  obtain ⟨u, e, h1, h2, h3⟩ := h it (mem_cons_self ..)
  have he : encs2 vs (it :: t) = e ++ encs2 vs t := by
   unfold encs2
   rw [map_cons, flatten_cons, h1]
   simp [h2]
  rw [he] at hB ⊢
  have hv : itv vs it = (it, u) := by unfold itv; rw [h1]; rfl
  rw [map_cons, hv]
  refine ⟨e, encs2 vs t ++ rest, h2, h3, by rw [hB, drop_left, append_assoc], ?_⟩
  have := ih (pre := pre ++ e) (B := B) (fun x hx => h x (mem_cons_of_mem _ hx)) (by rw [hB]; simp)
  rw [length_append] at this
  rw [length_append, ← Nat.add_assoc]
  exact this
theorem Rec.Good.rd {r : Rec} (gd : r.Good) : Rd r.body 0 ((Rec.its r.k).map (itv r.enc)) r.body.length := by
 have := rd_of (vs := r.enc) (rest := []) (its := Rec.its r.k) (pre := []) (B := r.body) (fun it hit => by
  obtain ⟨u, e, h1, _, h2, h3⟩ := gd.its it hit
  exact ⟨u, e, h1, h2, h3⟩) (by rw [nil_append, append_nil]; rfl)
 simp only [length_nil, Nat.zero_add] at this
 exact this
theorem itv_1 (e : Ent) (c : Cfg) (b : Int) : (Rec.its 1).map (itv (Rec.enc ⟨1, e, c, b⟩)) = (.num 0, .int .i64 1) :: eItems 1 e := by kernel_rfl
theorem itv_2 (e : Ent) (c : Cfg) (b : Int) : (Rec.its 2).map (itv (Rec.enc ⟨2, e, c, b⟩)) = (.num 0, .int .i64 2) :: (cItems 21 c ++ [(.num 34, .int .i64 b)]) := by kernel_rfl
theorem itv_3 (e : Ent) (c : Cfg) (b : Int) : (Rec.its 3).map (itv (Rec.enc ⟨3, e, c, b⟩)) = [(.num 0, .int .i64 3)] := by kernel_rfl
set_option maxHeartbeats 4000000 in
theorem rread_ok {r : Rec} (gd : r.Good) {xs rest : List UInt8} (hx : xs = r.fr ++ rest) {v : Value} {h : Hp} (hr : Rs xs v h) (hl : xs.length ≤ 1099511627776) :
  Ct prog 97 [v] [h] (fun res H' => res = .tuple #[.agg r.enc.toArray, .int .i64 (r.fr.length : Int), .int .i64 0] ∧ H' = [h]) := by
 have hfl := gd.fr_len
 have hle := gd.fr_le
 have hxl : xs.length = r.fr.length + rest.length := by rw [hx, length_append]
 have hB := gd.len
 have hrd := gd.rd
 have hkn := gd.known
 have hbr := gd.bare
 rw [gd.fr] at hx
 have hlB : r.body.length ≤ 1099511627776 := by omega
 generalize r.body = B at *
 generalize r.fr.length = F at *
 obtain ⟨k, e, c, bs⟩ := r
 refine Ct.mk' func97 rfl rfl rfl (fun g R => ?_)
 try simp only [ca]
 simp only [na]
 repeat' (first | refine run ?_ | refine al (fun _ => ?_) | fail)
 refine WX.call rfl (obody_ok (B := B) (by omega) hx hr hl) rfl ?_
 rintro _ _ ⟨u, rfl, rfl, hu⟩
 simp only [ca, na]
 obtain ⟨q1, c1, rfl⟩ := hu.len
 repeat' (first | refine run ?_ | refine bx rfl (fun _ => ?_) | refine al (fun _ => ?_) | fail)
 rename_i b2 i bk
 refine WX.hp (H' := [[(bk, .cells Rec.z.enc.toArray 108 (0, 0))], IBk i (.slice q1 B.length c1) 0, h, [(b2, .cells Rec.z.enc.toArray 108 (0, 0))], R]) rfl ?_
 have hk3 : k = 1 ∨ k = 2 ∨ k = 3 := of_decide_eq_true hkn
 rcases hk3 with rfl | rfl | rfl
 ·rw [itv_1] at hrd
  obtain ⟨b0, r0, e0, -, d0, hrd⟩ := hrd
  have hbr : Rec.mk 1 e Cfg.z 0 = ⟨1, e, c, bs⟩ := hbr
  simp only [Rec.mk.injEq, true_and] at hbr
  obtain ⟨rfl, rfl⟩ := hbr
  refine WX.call rfl (inumI_ct hu e0 d0 hlB) rfl ?_
  rintro _ _ ⟨rfl, rfl⟩
  simp only [ca, na]
  repeat' (first | refine WX.store (v := .int .i64 1) (b := bk) (i := 0) (cs := Rec.z.enc) rfl rfl rfl rfl ?_ | refine stp ?_ | fail)
  refine WX.hp (H' := [IBk i (.slice q1 B.length c1) (0 + b0.length), h, [(bk, .cells (Rec.enc ⟨1, Ent.z, Cfg.z, 0⟩).toArray 108 (0, 0))], [(b2, .cells Rec.z.enc.toArray 108 (0, 0))], R]) rfl ?_
  refine WX.call rfl (ient_ct hu hrd hlB) rfl ?_
  rintro _ _ ⟨rfl, rfl⟩
  simp only [ca, na]
  repeat' (first | refine WX.loadA (b := bk) (i := 0) (cs := Rec.enc ⟨1, e, Cfg.z, 0⟩) (vs := Rec.enc ⟨1, e, Cfg.z, 0⟩) rfl rfl rfl rfl ?_ | (refine I.st ?_; refine WX.storeG (vs := e.enc) (b := bk) (i := 1) (cs := Rec.enc ⟨1, Ent.z, Cfg.z, 0⟩) rfl rfl rfl (Ent.len20 _) (Ent.one _) rfl ?_; rw [Rec.put_e]) | refine stp ?_ | fail)
  exact D.finR [h] _ rfl (.cellA rfl rfl (.tmp rfl (.tmp rfl .nil))) rfl ⟨by rw [hfl], rfl⟩
 ·rw [itv_2] at hrd
  obtain ⟨b0, r0, e0, -, d0, hrd⟩ := hrd
  obtain ⟨q, hrc, b3, r3, e3, -, d3, hq⟩ := hrd.split
  have hbr : Rec.mk 2 Ent.z c bs = ⟨2, e, c, bs⟩ := hbr
  simp only [Rec.mk.injEq, true_and, and_true] at hbr
  obtain rfl := hbr
  refine WX.call rfl (inumI_ct hu e0 d0 hlB) rfl ?_
  rintro _ _ ⟨rfl, rfl⟩
  simp only [ca, na]
  repeat' (first | refine WX.store (v := .int .i64 2) (b := bk) (i := 0) (cs := Rec.z.enc) rfl rfl rfl rfl ?_ | refine stp ?_ | fail)
  refine WX.hp (H' := [IBk i (.slice q1 B.length c1) (0 + b0.length), h, [(bk, .cells (Rec.enc ⟨2, Ent.z, Cfg.z, 0⟩).toArray 108 (0, 0))], [(b2, .cells Rec.z.enc.toArray 108 (0, 0))], R]) rfl ?_
  refine WX.call rfl (icfg_ct hu hrc hlB) rfl ?_
  rintro _ _ ⟨rfl, rfl⟩
  simp only [ca, na]
  repeat' (first | (refine I.st ?_; refine WX.storeG (vs := c.enc) (b := bk) (i := 21) (cs := Rec.enc ⟨2, Ent.z, Cfg.z, 0⟩) rfl rfl rfl (Cfg.len13 _) (Cfg.one _) rfl ?_; rw [Rec.put_c]) | refine stp ?_ | fail)
  refine WX.call rfl (inumI_ct hu e3 d3 hlB) rfl ?_
  rintro _ _ ⟨rfl, rfl⟩
  have hq : q + b3.length = B.length := hq
  rw [hq]
  simp only [ca, na]
  repeat' (first | refine WX.loadA (b := bk) (i := 0) (cs := Rec.enc ⟨2, Ent.z, c, bs⟩) (vs := Rec.enc ⟨2, Ent.z, c, bs⟩) rfl rfl rfl rfl ?_ | (refine I.st ?_; refine WX.store (v := .int .i64 bs) (b := bk) (i := 34) (cs := Rec.enc ⟨2, Ent.z, c, 0⟩) rfl rfl rfl rfl ?_; rw [Rec.put_b]) | refine stp ?_ | fail)
  exact D.finR [h] _ rfl (.cellA rfl rfl (.tmp rfl (.tmp rfl .nil))) rfl ⟨by rw [hfl], rfl⟩
 ·rw [itv_3] at hrd
  obtain ⟨b0, r0, e0, -, d0, hq⟩ := hrd
  have hq : 0 + b0.length = B.length := hq
  have hbr : Rec.mk 3 Ent.z Cfg.z 0 = ⟨3, e, c, bs⟩ := hbr
  simp only [Rec.mk.injEq, true_and] at hbr
  obtain ⟨rfl, rfl, rfl⟩ := hbr
  refine WX.call rfl (inumI_ct hu e0 d0 hlB) rfl ?_
  rintro _ _ ⟨rfl, rfl⟩
  rw [hq]
  simp only [ca, na]
  repeat' (first | refine WX.loadA (b := bk) (i := 0) (cs := Rec.enc ⟨3, Ent.z, Cfg.z, 0⟩) (vs := Rec.enc ⟨3, Ent.z, Cfg.z, 0⟩) rfl rfl rfl rfl ?_ | (refine I.st ?_; refine WX.store (v := .int .i64 3) (b := bk) (i := 0) (cs := Rec.z.enc) rfl rfl rfl rfl ?_; refine WX.hp (H' := [IBk i (.slice q1 B.length c1) B.length, h, [(bk, .cells (Rec.enc ⟨3, Ent.z, Cfg.z, 0⟩).toArray 108 (0, 0))], [(b2, .cells Rec.z.enc.toArray 108 (0, 0))], R]) rfl ?_) | refine stp ?_ | fail)
  exact D.finR [h] _ rfl (.cellA rfl rfl (.tmp rfl (.tmp rfl .nil))) rfl ⟨by rw [hfl], rfl⟩
theorem rread_short {r : Rec} (gd : r.Good) {xs : List UInt8} {k : Nat} (hk : k < r.fr.length) (h0 : 0 < k) (hx : xs = r.fr.take k) {v : Value} {h : Hp} (hr : Rs xs v h) :
  Ct prog 97 [v] [h] (fun res H' => res = .tuple #[.agg Rec.z.enc.toArray, .int .i64 0, .int .i64 40] ∧ H' = [h]) := by
 have hB := gd.len
 have hxl : xs.length = k := by rw [hx, length_take]; omega
 rw [gd.fr] at hx hk
 refine Ct.mk' func97 rfl rfl rfl (fun g R => ?_)
 try simp only [ca]
 simp only [na]
 repeat' (first | refine run ?_ | refine al (fun _ => ?_) | fail)
 refine WX.call rfl (obody_short (B := r.body) (by omega) hk hx hr) rfl ?_
 rintro _ _ ⟨rfl, rfl⟩
 simp only [ca, na]
 try refine run ?_
 exact D.finR [h] _ rfl (.cellA rfl rfl (.tmp rfl (.tmp rfl .nil))) rfl ⟨rfl, rfl⟩
structure RfP where
 n : Int
 b : List UInt8
 cm : List Int
structure Gf where
 n : Int
 b : List UInt8
 cm : List Int
 blk : Nat
 pb : Option Addr
 lb : Nat
 cb : Nat
 hb : Hp
 pc : Option Addr
 lc : Nat
 cc : Nat
 hc : Hp
structure Gp where
 b : Nat
instance : Enc Gp := ⟨1, fun s => [.pointer (some ⟨s.b, 0, none⟩)], fun _ => rfl, fun _ => rfl, by decide⟩
def Gf.pl (g : Gf) : RfP := ⟨g.n, g.b, g.cm⟩
def Gf.gp (g : Gf) : Gp := ⟨g.blk⟩
structure Gf.Ok (g : Gf) : Prop where
 b : IsSl 5 g.b (.slice g.pb g.lb g.cb) g.hb
 c : IsSl 3 g.cm (.slice g.pc g.lc g.cc) g.hc
 e : g.cm.length = g.b.length
abbrev GBk (blk : Nat) (n : Int) (v w : Value) : Hp := [(blk, .cells (List.toArray [.int .i64 n, v, w]) 188 (0, 0))]
abbrev Gf.bk (g : Gf) : Hp := GBk g.blk g.n (.slice g.pb g.lb g.cb) (.slice g.pc g.lc g.cc)
def Gf.hp (g : Gf) : Hp := g.bk ++ (g.hb ++ g.hc)
def ghp (gs : List Gf) : Hp := (gs.map Gf.hp).flatten
abbrev RBk (d : Nat) (lv : Value) (t : Int) : Hp := [(d, .cells (List.toArray [lv, .int .i64 t]) 146 (0, 0))]
structure Rk3 (fs : List RfP) (lv : Value) (gs : List Gf) (lh : Hp) : Prop where
 ok : ∀ g ∈ gs, g.Ok
 fs : gs.map Gf.pl = fs
 sl : IsSl 189 (gs.map Gf.gp) lv lh
def IsRk (fs : List RfP) (t : Int) (d : Nat) (h : Hp) : Prop := ∃ lv gs lh, Rk3 fs lv gs lh ∧ h = RBk d lv t ++ (lh ++ ghp gs)
theorem ghp_split {pre post : List Gf} {g : Gf} : ghp (pre ++ g :: post) = ghp pre ++ (g.bk ++ (g.hb ++ (g.hc ++ ghp post))) := by simp [ghp, Gf.hp]
theorem map_app_inv {α β : Type} {f : α → β} {l : List α} {xs ys : List β} {x : β} (h : l.map f = xs ++ x :: ys) : ∃ a g b, l = a ++ g :: b ∧ a.map f = xs ∧ f g = x ∧ b.map f = ys := by
 obtain ⟨a, r, rfl, h1, h2⟩ := map_eq_append_iff.1 h
 obtain ⟨g, b, rfl, h3, h4⟩ := map_eq_cons_iff.1 h2
 exact ⟨a, g, b, rfl, h1, h3, h4⟩
theorem Rk3.at {fs xs ys : List RfP} {x : RfP} {lv : Value} {gs : List Gf} {lh : Hp} (h : Rk3 fs lv gs lh) (e : fs = xs ++ x :: ys) : ∃ a g b, gs = a ++ g :: b ∧ a.map Gf.pl = xs ∧ g.pl = x ∧ b.map Gf.pl = ys ∧ g.Ok ∧ a.length = xs.length ∧ (gs.map Gf.gp)[xs.length]? = some ⟨g.blk⟩ ∧ (gs.map Gf.gp).length = fs.length := by
 obtain ⟨a, g, b, e1, e2, e3, e4⟩ := map_app_inv (h.fs.trans e)
 have hl : a.length = xs.length := by rw [← e2, length_map]
 refine ⟨a, g, b, e1, e2, e3, e4, h.ok g (by rw [e1]; simp), hl, ?_, by rw [← h.fs, length_map, length_map]⟩
 rw [e1, map_append, ← hl]
 rw [List.getElem?_append_right (by rw [length_map]; exact Nat.le_refl _), length_map, Nat.sub_self]
 rfl
theorem Rk3.len {fs : List RfP} {lv : Value} {gs : List Gf} {lh : Hp} (h : Rk3 fs lv gs lh) : (gs.map Gf.gp).length = fs.length := by rw [← h.fs, length_map, length_map]
theorem split_at {α : Type} {l : List α} {k : Nat} {x : α} (h : l[k]? = some x) : l = l.take k ++ x :: l.drop (k + 1) ∧ (l.take k).length = k := by
 obtain ⟨h1, h2⟩ := List.getElem?_eq_some_iff.1 h
 refine ⟨?_, by rw [length_take]; omega⟩
 conv => lhs; rw [← take_append_drop k l, drop_eq_getElem_cons h1, h2]
theorem Rk3.nth {fs : List RfP} {x : RfP} {lv : Value} {gs : List Gf} {lh : Hp} (h : Rk3 fs lv gs lh) {k : Nat} (hx : fs[k]? = some x) : ∃ a g b, gs = a ++ g :: b ∧ g.pl = x ∧ g.Ok ∧ (gs.map Gf.gp)[k]? = some ⟨g.blk⟩ := by
 obtain ⟨e, hl⟩ := split_at hx
 obtain ⟨a, g, b, e1, -, e3, -, hok, -, hat, -⟩ := h.at e
 rw [hl] at hat
 exact ⟨a, g, b, e1, e3, hok, hat⟩
def rfPost (d : Nat) (lv : Value) (t : Int) (lh : Hp) (gs : List Gf) (k : Nat) (b : Bool) : Value → HH → Prop := fun r H' => r = .tuple #[.int .i64 (k : Int), .bool b] ∧ H' = [RBk d lv t, lh, ghp gs]
set_option maxHeartbeats 1000000 in
theorem rfind_at {fs xs ys : List RfP} {x : RfP} {lv : Value} {gs : List Gf} {lh : Hp} (hd : Rk3 fs lv gs lh) (e : fs = xs ++ x :: ys) (hlt : ∀ y ∈ xs, y.n < x.n) (hl : fs.length ≤ 1099511627776) {d : Nat} {t : Int} :
  Ct prog 147 [.pointer (some ⟨d, 0, none⟩), .int .i64 x.n] [RBk d lv t, lh, ghp gs] (rfPost d lv t lh gs xs.length true) := by
 obtain ⟨a, y0, b, e1, e2, e3, e4, hok, hal, hat, hlen⟩ := hd.at e
 have hr := hd.sl.rs
 have hgl := hd.len
 have hfl : fs.length = xs.length + (ys.length + 1) := by rw [e]; simp
 obtain ⟨lp, lc, rfl⟩ := hr.len
 refine Ct.mk' func147 rfl rfl rfl (fun g R => ?_)
 try simp only [ca]
 simp only [na]
 try refine run ?_
 refine W.loop (α := Nat) (fun k => k ≤ xs.length) (fun k => [(0, .pointer (some ⟨d, 0, none⟩)), (1, .int .i64 x.n), (6, .int .i64 (k : Int))]) (fun _ => [RBk d (.slice lp (gs.map Gf.gp).length lc) t, lh, ghp gs, R]) (fun k => xs.length + 1 - k) 0 (Nat.zero_le _) (by repeat (first | exact Fsub.nil | refine Fsub.cons rfl ?_)) (Hsub.of_picks inferInstance) ?_
 intro k hk
 by_cases hkl : k < xs.length
 ·obtain ⟨y, hy⟩ : ∃ y, xs[k]? = some y := ⟨_, List.getElem?_eq_getElem hkl⟩
  have hyn := hlt y (mem_of_getElem? hy)
  obtain ⟨a', g', b', e1', e3', hok', hat'⟩ := hd.nth (k := k) (x := y) (by rw [e, List.getElem?_append_left hkl]; exact hy)
  have hn' : g'.n = y.n := by rw [← e3']; rfl
  refine W.flat (H' := [RBk d (.slice lp (gs.map Gf.gp).length lc) t, lh, ghp a', g'.bk, g'.hb, g'.hc, ghp b', R]) (by rw [e1', ghp_split]; simp) ?_
  try refine run ?_
  refine D.flat (H' := [RBk d (.slice lp (gs.map Gf.gp).length lc) t, lh, ghp gs, R]) (by rw [e1', ghp_split]; simp) ?_
  exact D.rd (k + 1) (by omega) (by omega)
 ·obtain rfl : k = xs.length := by omega
  have hn' : y0.n = x.n := by rw [← e3]; rfl
  refine W.flat (H' := [RBk d (.slice lp (gs.map Gf.gp).length lc) t, lh, ghp a, y0.bk, y0.hb, y0.hc, ghp b, R]) (by rw [e1, ghp_split]; simp) ?_
  try refine run ?_
  refine W.quiet Tryz.mix (by kernel_rfl) ?_
  try refine run ?_
  refine D.flat (H' := [RBk d (.slice lp (gs.map Gf.gp).length lc) t, lh, ghp gs, R]) (by rw [e1, ghp_split]; simp) ?_
  exact D.finR [RBk d (.slice lp (gs.map Gf.gp).length lc) t, lh, ghp gs] _ rfl (.tmp rfl (.tmp rfl .nil)) rfl ⟨by rw [hn']; simp, rfl⟩
def Srt (fs : List RfP) : Prop := (fs.map (·.n)).Pairwise (· < ·)
section
variable {fs : List RfP} {lv : Value} {lh : Hp} {a b : List Gf} {y0 : Gf} {d : Nat} {t : Int}
theorem Rk3.split (h : Rk3 fs lv (a ++ y0 :: b) lh) : fs = a.map Gf.pl ++ y0.pl :: b.map Gf.pl := by rw [← h.fs]; simp
theorem Rk3.lt (h : Rk3 fs lv (a ++ y0 :: b) lh) (srt : Srt fs) : ∀ y ∈ a.map Gf.pl, y.n < y0.pl.n := by
 rw [h.split] at srt
 unfold Srt at srt
 rw [map_append, map_cons, pairwise_append] at srt
 exact fun y hy => srt.2.2 _ (mem_map.2 ⟨y, hy, rfl⟩) _ (mem_cons_self ..)
theorem Rk3.me (h : Rk3 fs lv (a ++ y0 :: b) lh) : y0.Ok ∧ ((a ++ y0 :: b).map Gf.gp)[a.length]? = some ⟨y0.blk⟩ := by
 refine ⟨h.ok y0 (by simp), ?_⟩
 rw [map_append, List.getElem?_append_right (by rw [length_map]; exact Nat.le_refl _), length_map, Nat.sub_self]
 rfl
theorem rfind_s (h : Rk3 fs lv (a ++ y0 :: b) lh) (srt : Srt fs) (hl : fs.length ≤ 1099511627776) :
  Ct prog 147 [.pointer (some ⟨d, 0, none⟩), .int .i64 y0.n] [RBk d lv t, lh, ghp a, y0.bk, y0.hb, y0.hc, ghp b] (fun r H' => r = .tuple #[.int .i64 (a.length : Int), .bool true] ∧ H' = [RBk d lv t, lh, ghp a, y0.bk, y0.hb, y0.hc, ghp b]) := by
 have := rfind_at h h.split (h.lt srt) hl (d := d) (t := t)
 rw [length_map] at this
 exact this.pack (by rw [ghp_split]; simp) (fun r H' p => ⟨_, by rw [p.2, ghp_split]; simp, p.1, rfl⟩)
theorem rread_s (h : Rk3 fs lv (a ++ y0 :: b) lh) (srt : Srt fs) (hl : fs.length ≤ 1099511627776) :
  Ct prog 95 [.pointer (some ⟨d, 0, none⟩), .int .i64 y0.n] [RBk d lv t, lh, ghp a, y0.bk, y0.hb, y0.hc, ghp b] (fun r H' => r = .tuple #[.slice y0.pb y0.lb y0.cb, .int .i64 0] ∧ H' = [RBk d lv t, lh, ghp a, y0.bk, y0.hb, y0.hc, ghp b]) := by
 obtain ⟨hok, hat⟩ := h.me
 have hr := h.sl.rs
 have hrb := hok.b.rs
 refine Ct.mk' func95 rfl rfl rfl (fun g R => ?_)
 try simp only [ca]
 simp only [na]
 try refine run ?_
 refine WX.callQ rfl (rfind_s (t := t) h srt hl) rfl ?_
 try refine run ?_
 exact D.fin2 [RBk d lv t, lh, ghp a, y0.bk, y0.hb, y0.hc, ghp b] _ rfl rfl rfl ⟨rfl, rfl⟩
end
section
variable {fs : List RfP} {t : Int} {d : Nat} {h : Hp}
theorem IsRk.at {x : RfP} {k : Nat} (hd : IsRk fs t d h) (hx : fs[k]? = some x) : ∃ lv a y0 b lh, Rk3 fs lv (a ++ y0 :: b) lh ∧ y0.pl = x ∧ h.Perm h ∧ h = [RBk d lv t, lh, ghp a, y0.bk, y0.hb, y0.hc, ghp b].flatten := by
 obtain ⟨lv, gs, lh, h3, rfl⟩ := hd
 obtain ⟨a, y0, b, rfl, e, -, -⟩ := h3.nth hx
 exact ⟨lv, a, y0, b, lh, h3, e, .refl _, by rw [ghp_split]; simp⟩
theorem rread_ct (hd : IsRk fs t d h) (srt : Srt fs) (hl : fs.length ≤ 1099511627776) {x : RfP} {k : Nat} (hx : fs[k]? = some x) :
  Ct prog 95 [.pointer (some ⟨d, 0, none⟩), .int .i64 x.n] [h] (fun r H' => ∃ u, r = .tuple #[u, .int .i64 0] ∧ H' = [h] ∧ Rs x.b u h) := by
 obtain ⟨lv, a, y0, b, lh, h3, rfl, -, rfl⟩ := hd.at hx
 refine (rread_s (t := t) h3 srt hl).pack (by simp) (fun r H' p => ⟨_, by rw [p.2]; simp, _, p.1, rfl, ?_⟩)
 have := h3.me.1.b.rs
 refine this.mono fun _ w ho => ?_
 simp only [flatten_cons, flatten_nil] at ho
 exact ho.right.right.right.right.left
end
structure RfQ where
 n : Int
 b : List UInt8
 s : Nat
 ts : List Int
def RfQ.pl (q : RfQ) : RfP := ⟨q.n, q.b, List.replicate q.s 0 ++ q.ts⟩
structure RfQ.Ok (q : RfQ) : Prop where
 e : q.s + q.ts.length = q.b.length
 p : ∀ x ∈ q.ts, 0 < x
structure QOk (qs : List RfQ) : Prop where
 up : (qs.map (·.n)).Pairwise (· < ·)
 ok : ∀ q ∈ qs, q.Ok
 used : (qs.map fun q => q.b.length).sum ≤ 1048576
 len : qs.length ≤ 64
theorem QOk.srt {qs : List RfQ} (h : QOk qs) : Srt (qs.map RfQ.pl) := by
 unfold Srt
 rw [map_map]
 exact h.up
theorem QOk.bl {qs : List RfQ} (h : QOk qs) {q : RfQ} (hq : q ∈ qs) : q.b.length ≤ 1048576 := by
 have := sum_mem_le (mem_map.2 ⟨q, hq, rfl⟩ : q.b.length ∈ qs.map fun q => q.b.length)
 have := h.used
 omega
theorem q_nth {qs : List RfQ} {k : Nat} {q : RfQ} (h : qs[k]? = some q) : (qs.map RfQ.pl)[k]? = some q.pl := by rw [List.getElem?_map, h]; rfl
set_option maxHeartbeats 1000000 in
theorem rfiles_ct {fs : List RfP} {t : Int} {d : Nat} {h : Hp} (hd : IsRk fs t d h) (hl : fs.length ≤ 1099511627776) :
  Ct prog 94 [.pointer (some ⟨d, 0, none⟩)] [h] (fun r H' => ∃ hn, H' = [h, hn] ∧ IsSl 3 (fs.map (·.n)) r hn) := by
 obtain ⟨lv, gs, lh, hd, rfl⟩ := hd
 have hr := hd.sl.rs
 have hgl := hd.len
 obtain ⟨lp, lc, rfl⟩ := hr.len
 refine Ct.pack (pre := [RBk d (.slice lp (gs.map Gf.gp).length lc) t, lh, ghp gs]) (post := fun r H' => ∃ hn, H' = [RBk d (.slice lp (gs.map Gf.gp).length lc) t, lh, ghp gs, hn] ∧ IsSl 3 (fs.map (·.n)) r hn) ?_ (by simp) (fun r H' ⟨hn, e, p⟩ => ⟨[RBk d (.slice lp (gs.map Gf.gp).length lc) t ++ (lh ++ ghp gs), hn], by rw [e]; simp, hn, rfl, p⟩)
 refine Ct.mk' func94 rfl rfl rfl (fun g R => ?_)
 try simp only [ca]
 simp only [na]
 try refine run ?_
 refine W.nilH ?_
 refine W.loop (α := Nat × Value × Hp) (fun x => x.1 ≤ fs.length ∧ IsSl 3 ((fs.take x.1).map (·.n)) x.2.1 x.2.2) (fun x => [(0, .pointer (some ⟨d, 0, none⟩)), (3, x.2.1), (4, .int .i64 (x.1 : Int))]) (fun x => [x.2.2, RBk d (.slice lp (gs.map Gf.gp).length lc) t, lh, ghp gs, R]) (fun x => fs.length - x.1) (0, .slice none 0 0, []) ⟨Nat.zero_le _, IsSl.nil _⟩ (by repeat (first | exact Fsub.nil | refine Fsub.cons rfl ?_)) (Hsub.of_picks inferInstance) ?_
 rintro ⟨k, u, hu⟩ ⟨hk, hsu⟩
 simp only [] at hk hsu ⊢
 by_cases hkl : k < fs.length
 ·obtain ⟨y, hy⟩ : ∃ y, fs[k]? = some y := ⟨_, List.getElem?_eq_getElem hkl⟩
  obtain ⟨a', g', b', e1', e3', hok', hat'⟩ := hd.nth hy
  have hnn : g'.n = y.n := by rw [← e3']; rfl
  have hsn : (fs.take (k + 1)).map (·.n) = (fs.take k).map (·.n) ++ [g'.n] := by
   rw [take_succ_eq_append_getElem hkl, (List.getElem?_eq_some_iff.1 hy).2, map_append, hnn]; rfl
  refine W.flat (H' := [hu, RBk d (.slice lp (gs.map Gf.gp).length lc) t, lh, ghp a', g'.bk, g'.hb, g'.hc, ghp b', R]) (by rw [e1', ghp_split]; simp) ?_
  try refine run ?_
  refine I.bs ?_
  refine WX.lit (ys := [g'.n]) rfl rfl rfl rfl rfl rfl (by decide) rfl (fun v1 h1 hs1 => ?_)
  refine WX.app rfl rfl hsu hs1.rs rfl rfl (by decide) (by rw [length_map, length_take]; simp only [length_cons, length_nil]; omega) rfl (fun v2 h2 hs2 => ?_)
  rw [← hsn] at hs2
  try refine run ?_
  refine D.flat (H' := [h1, h2, RBk d (.slice lp (gs.map Gf.gp).length lc) t, lh, ghp gs, R]) (by rw [e1', ghp_split]; simp) ?_
  exact D.rd (k + 1, v2, h2) ⟨by simp only []; omega, hs2⟩ (by simp only []; omega)
 ·obtain rfl : k = fs.length := by omega
  rw [take_length] at hsu
  try refine run ?_
  exact D.fin1 [RBk d (.slice lp (gs.map Gf.gp).length lc) t, lh, ghp gs, hu] _ rfl rfl ⟨_, rfl, hsu⟩
end Go.Proofs.YtejfahjgfedliaaGreat

namespace Go.Proofs.YtejfahjgfedliaaGreat
open Go Go.Sl List
theorem Rk3.put {fs : List RfP} {lv : Value} {a b : List Gf} {y0 y1 : Gf} {lh : Hp} (h : Rk3 fs lv (a ++ y0 :: b) lh) (hb : y1.blk = y0.blk) (hok : y1.Ok) : Rk3 (a.map Gf.pl ++ y1.pl :: b.map Gf.pl) lv (a ++ y1 :: b) lh where
 ok := fun x hx => by
  rcases mem_append.1 hx with hx | hx
  ·exact h.ok x (by simp [hx])
  ·rcases mem_cons.1 hx with rfl | hx
   ·exact hok
   ·exact h.ok x (by simp [hx])
 fs := by simp
 sl := by
  have e : (a ++ y1 :: b).map Gf.gp = (a ++ y0 :: b).map Gf.gp := by
   simp only [map_append, map_cons]
   rw [show y1.gp = y0.gp from by unfold Gf.gp; rw [hb]]
  rw [e]
  exact h.sl
theorem q_split {qs : List RfQ} {a : List Gf} {y0 : Gf} {b : List Gf} {q : RfQ} {k : Nat} (hq : qs[k]? = some q) (h : a.map Gf.pl ++ y0.pl :: b.map Gf.pl = qs.map RfQ.pl) (hk : a.length = k) {y1 : Gf} {q1 : RfQ} (e : y1.pl = q1.pl) : a.map Gf.pl ++ y1.pl :: b.map Gf.pl = (qs.set k q1).map RfQ.pl := by
 obtain ⟨h1, h2⟩ := List.getElem?_eq_some_iff.1 hq
 rw [List.map_set, ← h, ← hk, set_append_right _ _ (by simp), length_map, Nat.sub_self, set_cons_zero, e]
theorem Rk3.nthL {fs : List RfP} {x : RfP} {lv : Value} {gs : List Gf} {lh : Hp} (h : Rk3 fs lv gs lh) {k : Nat} (hx : fs[k]? = some x) : ∃ a y0 b, gs = a ++ y0 :: b ∧ y0.pl = x ∧ a.length = k := by
 obtain ⟨e, hl⟩ := split_at hx
 obtain ⟨a, y0, b, e1, -, e3, -, -, hal, -, -⟩ := h.at e
 exact ⟨a, y0, b, e1, e3, hal.trans hl⟩
end Go.Proofs.YtejfahjgfedliaaGreat

namespace Go.Proofs.YtejfahjgfedliaaGreat
open Go Go.Sl Go.Proofs.Tryz List
theorem ghp_app {a b : List Gf} : ghp (a ++ b) = ghp a ++ ghp b := by simp [ghp]
theorem q_erase {qs : List RfQ} {a : List Gf} {y0 : Gf} {b : List Gf} {k : Nat} (h : a.map Gf.pl ++ y0.pl :: b.map Gf.pl = qs.map RfQ.pl) (hk : a.length = k) : (a ++ b).map Gf.pl = (qs.eraseIdx k).map RfQ.pl := by
 rw [eraseIdx_eq_take_drop_succ, map_append, map_append, map_take, map_drop, ← h, ← hk]
 rw [take_left' (by simp), ← drop_drop, drop_left' (by simp)]
 rfl
set_option maxHeartbeats 2000000 in
theorem rremove_ct {qs : List RfQ} (ok : QOk qs) {t : Int} {d : Nat} {h : Hp} (hd : IsRk (qs.map RfQ.pl) t d h) {k : Nat} {q : RfQ} (hq : qs[k]? = some q) :
  Ct prog 96 [.pointer (some ⟨d, 0, none⟩), .int .i64 q.n] [h] (fun r H' => ∃ h', r = .int .i64 0 ∧ H' = [h'] ∧ IsRk ((qs.eraseIdx k).map RfQ.pl) t d h') := by
 have hll := ok.len
 obtain ⟨lv, gs, lh, hd, rfl⟩ := hd
 obtain ⟨a, y0, b, rfl, e, hal⟩ := hd.nthL (q_nth hq)
 have hkl : k < qs.length := (List.getElem?_eq_some_iff.1 hq).1
 have hgl : ((a ++ y0 :: b).map Gf.gp).length = qs.length := hd.len.trans (length_map _)
 have hr := hd.sl.rs
 have hr0 := hr
 obtain ⟨lp, lc, rfl⟩ := hr.len
 have hcap : ((a ++ y0 :: b).map Gf.gp).length ≤ lc := by obtain ⟨aa, cc, e, le, _⟩ := id hr; cases e; exact le
 have hn : y0.n = q.n := congrArg RfP.n e
 have htk := hr.take (m := a.length) (by omega)
 have hfr := hr.from (m := 1) rfl (lo := a.length + 1) (by omega)
 have e1 : ((a ++ y0 :: b).map Gf.gp).take a.length = a.map Gf.gp := by rw [map_append, take_left' (by simp)]
 have e2 : ((a ++ y0 :: b).map Gf.gp).drop (a.length + 1) = b.map Gf.gp := by rw [map_append, ← drop_drop, drop_left' (by simp)]; rfl
 rw [e1] at htk
 rw [e2] at hfr
 have hbl : (a.map Gf.gp).length + (b.map Gf.gp).length ≤ 64 := by
  rw [map_append, length_append, map_cons, length_cons] at hgl; omega
 rw [← hn]
 refine Ct.pack (pre := [RBk d (.slice lp ((a ++ y0 :: b).map Gf.gp).length lc) t, lh, ghp a, y0.bk, y0.hb, y0.hc, ghp b])
  (post := fun r H' => ∃ lv' lh', r = .int .i64 0 ∧ H' = [RBk d lv' t, lh', ghp a, ghp b] ∧ IsSl 189 ((a ++ b).map Gf.gp) lv' lh') ?_ (by rw [ghp_split]; simp)
  (fun r H' ⟨lv', lh', e1, e2, e3⟩ => ⟨[[RBk d lv' t, lh', ghp a, ghp b].flatten], by rw [e2]; simp, _, e1, rfl, lv', a ++ b, lh', ⟨fun x hx => hd.ok x (by rcases mem_append.1 hx with hx | hx <;> simp [hx]), q_erase hd.split.symm hal, e3⟩, by rw [ghp_app]; simp⟩)
 refine Ct.mk' func96 rfl rfl rfl (fun g R => ?_)
 try simp only [ca]
 simp only [na]
 try refine run ?_
 refine WX.callQ rfl (rfind_s (t := t) hd ok.srt (by rw [length_map]; omega)) rfl ?_
 try refine run ?_
 refine WX.nilH ?_
 refine WX.app rfl rfl (IsSl.nil _) htk rfl rfl (by decide) (by simp only [length_nil]; omega) rfl (fun v1 h1 hs1 => ?_)
 rw [nil_append] at hs1
 try refine run ?_
 refine WX.as 31 (.int .i64 ((a.length + 1 : Nat) : Int)) rfl rfl ?_
 refine I.sl ?_
 refine WX.cutFrom (lo := a.length + 1) rfl rfl (by omega) hcap rfl ?_
 refine WX.app rfl rfl hs1 hfr rfl rfl (by decide) (by omega) rfl (fun v2 h2 hs2 => ?_)
 rw [← map_append] at hs2
 obtain ⟨p2, n2, c2, rfl⟩ := hs2.sh
 try refine run ?_
 exact D.fin1 [RBk d (.slice p2 n2 c2) t, h2, ghp a, ghp b] _ rfl rfl ⟨_, _, rfl, rfl, hs2⟩
def RfQ.cut (q : RfQ) (m : Nat) : RfQ := ⟨q.n, q.b.take m, m, []⟩
set_option maxHeartbeats 2000000 in
theorem rtrunc_ct {qs : List RfQ} (ok : QOk qs) {t : Int} {d : Nat} {h : Hp} (hd : IsRk (qs.map RfQ.pl) t d h) {k : Nat} {q : RfQ} (hq : qs[k]? = some q) (hts : q.ts = []) {m : Nat} (hm : m ≤ q.b.length) :
  Ct prog 98 [.pointer (some ⟨d, 0, none⟩), .int .i64 q.n, .int .i64 (m : Int)] [h] (fun r H' => ∃ h', r = .int .i64 0 ∧ H' = [h'] ∧ IsRk ((qs.set k (q.cut m)).map RfQ.pl) t d h') := by
 have hqo := ok.ok q (mem_of_getElem? hq)
 have hqe := hqo.e
 have hbl := ok.bl (mem_of_getElem? hq)
 have hll := ok.len
 obtain ⟨lv, gs, lh, hd, rfl⟩ := hd
 obtain ⟨a, y0, b, rfl, e, hal⟩ := hd.nthL (q_nth hq)
 obtain ⟨hok, hat⟩ := hd.me
 have hr := hd.sl.rs
 have hrb := hok.b.rs
 have hrc := hok.c.rs
 obtain ⟨lp, lc, rfl⟩ := hr.len
 have hn : y0.n = q.n := congrArg RfP.n e
 have hbb : y0.b = q.b := congrArg RfP.b e
 have hbbl : y0.b.length = q.b.length := by rw [hbb]
 have hcm : y0.cm = List.replicate q.s (0 : Int) ++ q.ts := congrArg RfP.cm e
 have hoe := hok.e
 rw [hts, length_nil] at hqe
 rw [hts, append_nil] at hcm
 have hct : y0.cm.take m = List.replicate m 0 := by rw [hcm, take_replicate]; congr 1; omega
 have hb2 := hok.b.to (m := m) (by omega)
 have hc2 := hok.c.to (m := m) (by omega)
 rw [hct] at hc2
 rw [hbb] at hb2
 rw [← hn]
 refine Ct.pack (pre := [RBk d (.slice lp ((a ++ y0 :: b).map Gf.gp).length lc) t, lh, ghp a, y0.bk, y0.hb, y0.hc, ghp b])
  (post := fun r H' => r = .int .i64 0 ∧ H' = [RBk d (.slice lp ((a ++ y0 :: b).map Gf.gp).length lc) t, lh, ghp a, GBk y0.blk y0.n (.slice y0.pb m y0.cb) (.slice y0.pc m y0.cc), y0.hb, y0.hc, ghp b]) ?_ (by rw [ghp_split]; simp)
  (fun r H' ⟨e1, e2⟩ => ⟨[[RBk d (.slice lp ((a ++ y0 :: b).map Gf.gp).length lc) t, lh, ghp a, GBk y0.blk y0.n (.slice y0.pb m y0.cb) (.slice y0.pc m y0.cc), y0.hb, y0.hc, ghp b].flatten], by rw [e2]; simp, _, e1, rfl, .slice lp ((a ++ y0 :: b).map Gf.gp).length lc, a ++ ⟨y0.n, q.b.take m, List.replicate m 0, y0.blk, y0.pb, m, y0.cb, y0.hb, y0.pc, m, y0.cc, y0.hc⟩ :: b, lh, ?_, by rw [ghp_split]; simp⟩)
 ·refine Ct.mk' func98 rfl rfl rfl (fun g R => ?_)
  try simp only [ca]
  simp only [na]
  try refine run ?_
  refine WX.callQ rfl (rfind_s (t := t) hd ok.srt (by rw [length_map]; omega)) rfl ?_
  try refine run ?_
  refine W.mix (List.replicate 19 true) [RBk d (.slice lp ((a ++ y0 :: b).map Gf.gp).length lc) t, lh, ghp a, y0.bk, y0.hb, y0.hc, ghp b] Tryz.mix (by kernel_rfl) ?_
  try refine run ?_
  refine W.hp (H' := [RBk d (.slice lp ((a ++ y0 :: b).map Gf.gp).length lc) t, lh, ghp a, GBk y0.blk y0.n (.slice y0.pb m y0.cb) (.slice y0.pc y0.lc y0.cc), y0.hb, y0.hc, ghp b, R]) rfl ?_
  refine W.mix (List.replicate 19 true) [RBk d (.slice lp ((a ++ y0 :: b).map Gf.gp).length lc) t, lh, ghp a, GBk y0.blk y0.n (.slice y0.pb m y0.cb) (.slice y0.pc y0.lc y0.cc), y0.hb, y0.hc, ghp b] Tryz.mix (by kernel_rfl) ?_
  try refine run ?_
  refine D.hp (H' := [RBk d (.slice lp ((a ++ y0 :: b).map Gf.gp).length lc) t, lh, ghp a, GBk y0.blk y0.n (.slice y0.pb m y0.cb) (.slice y0.pc m y0.cc), y0.hb, y0.hc, ghp b, R]) rfl ?_
  exact D.fin1 [RBk d (.slice lp ((a ++ y0 :: b).map Gf.gp).length lc) t, lh, ghp a, GBk y0.blk y0.n (.slice y0.pb m y0.cb) (.slice y0.pc m y0.cc), y0.hb, y0.hc, ghp b] _ rfl rfl ⟨rfl, rfl⟩
 ·have := hd.put (y1 := ⟨y0.n, q.b.take m, List.replicate m 0, y0.blk, y0.pb, m, y0.cb, y0.hb, y0.pc, m, y0.cc, y0.hc⟩) rfl ⟨hb2, hc2, by simp only [length_replicate, length_take]; omega⟩
  rw [q_split hq hd.split.symm hal (q1 := q.cut m) (by unfold Gf.pl RfQ.pl RfQ.cut; simp [hn])] at this
  exact this
end Go.Proofs.YtejfahjgfedliaaGreat

namespace Go.Proofs.YtejfahjgfedliaaGreat
open Go Go.Sl
end Go.Proofs.YtejfahjgfedliaaGreat

namespace Go.Proofs.YtejfahjgfedliaaGreat
open Go Go.Sl List
def allT (qs : List RfQ) : List Int := (qs.map RfQ.ts).flatten
theorem sum_take_le {α : Type} (f : α → Nat) (l : List α) (k : Nat) : ((l.take k).map f).sum ≤ (l.map f).sum := by
 conv => rhs; rw [← take_append_drop k l]
 rw [map_append, sum_append]; omega
end Go.Proofs.YtejfahjgfedliaaGreat

namespace Go.Proofs.YtejfahjgfedliaaGreat
open Go Go.Sl
end Go.Proofs.YtejfahjgfedliaaGreat

namespace Go.Proofs.YtejfahjgfedliaaGreat
open Go Go.Sl List
def Lf.s7 (f : Lf) : Nat := (bytes (f.rs.take f.k)).length
structure FR (f : Lf) (q : RfQ) : Prop where
 n : q.n = f.n
 b : q.b = bytes f.rs
 s : q.s = f.s7
 e : q.s + q.ts.length = q.b.length
inductive All2 {α β : Type} (R : α → β → Prop) : List α → List β → Prop
 | nil : All2 R [] []
 | cons {a : α} {b : β} {l : List α} {m : List β} (h : R a b) (t : All2 R l m) : All2 R (a :: l) (b :: m)
theorem All2.len {α β : Type} {R : α → β → Prop} {l : List α} {m : List β} (h : All2 R l m) : l.length = m.length := by
 induction h with
 | nil => rfl
 | cons _ _ ih => simp [ih]
theorem All2.app {α β : Type} {R : α → β → Prop} {l l' : List α} {m m' : List β} (h : All2 R l m) (k : All2 R l' m') : All2 R (l ++ l') (m ++ m') := by
 induction h with
 | nil => exact k
 | cons a _ ih => exact .cons a ih
theorem All2.map_eq {α β γ : Type} {R : α → β → Prop} {f : α → γ} {f' : β → γ} (hf : ∀ a b, R a b → f' b = f a) {l : List α} {m : List β} (h : All2 R l m) : m.map f' = l.map f := by
 induction h with
 | nil => rfl
 | cons a _ ih => rw [map_cons, map_cons, ih, hf _ _ a]
theorem All2.get {α β : Type} {R : α → β → Prop} {l : List α} {m : List β} (h : All2 R l m) {i : Nat} {a : α} {b : β} (ha : l[i]? = some a) (hb : m[i]? = some b) : R a b := by
 induction h generalizing i with
 | nil => simp at ha
 | cons x _ ih =>
  cases i with
  | zero => cases ha; cases hb; exact x
  | succ i => exact ih (by simpa using ha) (by simpa using hb)
structure LR (l : List Lf) (qs : List RfQ) (t : Int) : Prop where
 m : All2 FR l qs
 inc : (allT qs).Pairwise (· < ·)
 pos : ∀ x ∈ allT qs, 0 < x ∧ x ≤ t
 t0 : 0 ≤ t
section
variable {l : List Lf} {qs : List RfQ} {t : Int}
theorem mem_allT {qs : List RfQ} {q : RfQ} (hq : q ∈ qs) {x : Int} (hx : x ∈ q.ts) : x ∈ allT qs := mem_flatten.2 ⟨q.ts, mem_map.2 ⟨q, hq, rfl⟩, hx⟩
theorem LR.names (h : LR l qs t) : qs.map (·.n) = l.map (·.n) := h.m.map_eq fun _ _ x => x.n
theorem LR.lens (h : LR l qs t) : (qs.map fun q => q.b.length) = l.map fun f => (bytes f.rs).length := h.m.map_eq fun _ _ x => by rw [x.b]
theorem LR.fr (h : LR l qs t) {q : RfQ} (hq : q ∈ qs) : ∃ f ∈ l, FR f q := by
 obtain ⟨i, hi⟩ := mem_iff_getElem?.1 hq
 have hlt := (List.getElem?_eq_some_iff.1 hi).1
 have hl := h.m.len
 refine ⟨l[i], getElem_mem (by omega), h.m.get (List.getElem?_eq_getElem (by omega)) hi⟩
theorem LR.q (h : LR l qs t) (ok : LUp l) : QOk qs where
 up := by rw [h.names]; exact pairwise_map.2 ok.up
 ok := fun q hq => by
  obtain ⟨f, _, hf⟩ := h.fr hq
  exact ⟨hf.e, fun x hx => (h.pos x (mem_allT hq hx)).1⟩
 used := by rw [h.lens]; have := ok.used; rw [dk_used] at this; exact this
 len := by have := ok.len; rw [h.m.len] at this; exact this
theorem allT_app (a b : List RfQ) : allT (a ++ b) = allT a ++ allT b := by unfold allT; rw [map_append, flatten_append]
theorem allT_one (q : RfQ) : allT [q] = q.ts := by unfold allT; simp
end
end Go.Proofs.YtejfahjgfedliaaGreat

namespace Go.Proofs.YtejfahjgfedliaaGreat
open Go Go.Sl
def RD (l : List Lf) (d : Nat) (h : Hp) (T : Int) : Prop := ∃ qs t, LR l qs t ∧ t ≤ T ∧ IsRk (qs.map RfQ.pl) t d h
abbrev VBk (w d : Nat) (seg torn : Int) : Hp := [(w, .cells (List.toArray [.pointer (some ⟨d, 0, none⟩), .int .i64 seg, .int .i64 torn]) 148 (0, 0))]
def fq (f : FileP) : RfQ := ⟨f.n, f.b, f.s, []⟩
end Go.Proofs.YtejfahjgfedliaaGreat

namespace Go.Proofs.YtejfahjgfedliaaGreat
open Go Go.Sl Go.Proofs.Tryz List
theorem q_set {qp : List RfQ} {x y : RfQ} {post : List RfQ} : (qp ++ x :: post).set qp.length y = qp ++ y :: post := by rw [set_append_right _ _ (Nat.le_refl _), Nat.sub_self]; rfl
theorem q_del {qp : List RfQ} {x y : RfQ} {post : List RfQ} : (qp ++ x :: y :: post).eraseIdx (qp.length + 1) = qp ++ x :: post := by
 rw [eraseIdx_append_of_length_le (by omega)]
 rw [show qp.length + 1 - qp.length = 1 by omega]
 rfl
theorem QOk.cut1 {qp : List RfQ} {x : RfQ} {post : List RfQ} (h : QOk (qp ++ x :: post)) {m : Nat} (hm : m ≤ x.b.length) : QOk (qp ++ x.cut m :: post) where
 up := by have := h.up; simp only [map_append, map_cons] at this ⊢; exact this
 ok := fun q hq => by
  rcases mem_append.1 hq with hq | hq
  ·exact h.ok q (by simp [hq])
  ·rcases mem_cons.1 hq with rfl | hq
   ·exact ⟨by show m + 0 = (x.b.take m).length; rw [length_take]; omega, by show ∀ y ∈ [], _; simp⟩
   ·exact h.ok q (by simp [hq])
 used := by
  have := h.used
  simp only [map_append, map_cons, sum_append, sum_cons] at this ⊢
  have e : (x.cut m).b.length ≤ x.b.length := by show (x.b.take m).length ≤ _; rw [length_take]; omega
  omega
 len := by have := h.len; simp only [length_append, length_cons] at this ⊢; exact this
theorem QOk.del1 {qp : List RfQ} {x y : RfQ} {post : List RfQ} (h : QOk (qp ++ x :: y :: post)) : QOk (qp ++ x :: post) where
 up := by
  have := h.up
  simp only [map_append, map_cons, pairwise_append, pairwise_cons, mem_cons] at this ⊢
  refine ⟨this.1, ⟨fun a ha => this.2.1.1 a (.inr ha), this.2.1.2.2⟩, fun a ha b hb => this.2.2 a ha b ?_⟩
  rcases hb with hb | hb
  ·exact .inl hb
  ·exact .inr (.inr hb)
 ok := fun q hq => h.ok q (by
  rcases mem_append.1 hq with hq | hq
  ·simp [hq]
  ·rcases mem_cons.1 hq with rfl | hq <;> simp_all)
 used := by have := h.used; simp only [map_append, map_cons, sum_append, sum_cons] at this ⊢; omega
 len := by have := h.len; simp only [length_append, length_cons] at this ⊢; omega
set_option maxHeartbeats 8000000 in
theorem vopen_ct {pre : List Lf} {qp tail : List RfQ} (hm : All2 FR pre qp) (hgd : ∀ f ∈ pre, ∀ r ∈ f.rs, r.code = 0) (qok : QOk (qp ++ tail)) {t : Int} {d : Nat} {h : Hp} (hd : IsRk ((qp ++ tail).map RfQ.pl) t d h)
  {seg torn : Int} {qs' : List RfQ} {out : List Rec} (hcount : 6 * (recs pre).length ≤ 1048576)
  (hend : (tail = [] ∧ seg = lastN pre ∧ torn = 0 ∧ qs' = qp ∧ out = outF (recs pre)) ∨
   ∃ x post rs tt, tail = x :: post ∧ x.b = bytes rs ++ tt ∧ x.ts = [] ∧ (∀ r ∈ rs, r.code = 0) ∧ Short tt ∧ tt ≠ [] ∧ seg = x.n ∧ torn = ((tt.length + (post.map (fun q => q.b.length)).sum : Nat) : Int) ∧ qs' = qp ++ [x.cut (bytes rs).length] ∧ out = outF (recs pre ++ rs)) :
  Ct prog 49 [.pointer (some ⟨d, 0, none⟩)] [h] (fun res H' => ∃ w u h' ho, res = .tuple #[.pointer (some ⟨w, 0, none⟩), u] ∧ H' = [VBk w d seg torn, h', ho] ∧ IsRk (qs'.map RfQ.pl) t d h' ∧ IsSl 108 out u ho) := by
 have hll := qok.len
 have hml := hm.len
 have hfc := rfiles_ct hd (by rw [length_map]; omega)
 have hnm : ((qp ++ tail).map RfQ.pl).map (·.n) = (qp ++ tail).map (·.n) := by rw [map_map]; rfl
 rw [hnm] at hfc
 have hnl : ((qp ++ tail).map (·.n)).length = pre.length + tail.length := by rw [length_map, length_append]; omega
 rw [length_append] at hll
 refine Ct.mk' func49 rfl rfl rfl (fun g R => ?_)
 try simp only [ca]
 simp only [na]
 repeat' (first | refine run ?_ | refine bx rfl (fun _ => ?_) | fail)
 rename_i w
 refine WX.call rfl hfc rfl ?_
 rintro fu _ ⟨hn, rfl, hs⟩
 have hr := hs.rs
 simp only [ca, na]
 try refine run ?_
 refine W.nilH ?_
 refine W.loop (α := Bool × Nat × Value × Hp × Hp × Int × Int)
  (fun z => (z.1 = false ∧ z.2.1 ≤ pre.length ∧ IsSl 108 (outF (recs (pre.take z.2.1))) z.2.2.1 z.2.2.2.1 ∧ IsRk ((qp ++ tail).map RfQ.pl) t d z.2.2.2.2.1 ∧ z.2.2.2.2.2.1 = lastN (pre.take z.2.1) ∧ z.2.2.2.2.2.2 = 0) ∨
   (z.1 = true ∧ ∃ x post m tl j, (tail = x :: post ∧ m ≤ x.b.length ∧ seg = x.n ∧ torn = ((tl + (post.map (fun q => q.b.length)).sum : Nat) : Int) ∧ qs' = qp ++ [x.cut m]) ∧ z.2.1 = pre.length + 1 + j ∧ j ≤ post.length ∧ IsSl 108 out z.2.2.1 z.2.2.2.1 ∧ IsRk ((qp ++ x.cut m :: post.drop j).map RfQ.pl) t d z.2.2.2.2.1 ∧ QOk (qp ++ x.cut m :: post.drop j) ∧ z.2.2.2.2.2.1 = x.n ∧ z.2.2.2.2.2.2 = ((tl + ((post.take j).map (fun q => q.b.length)).sum : Nat) : Int) ∧ tl ≤ 1048576))
  (fun z => [(0, .pointer (some ⟨d, 0, none⟩)), (4, .pointer (some ⟨w, 0, none⟩)), (5, z.2.2.1), (6, fu), (7, .bool z.1), (8, .int .i64 (z.2.1 : Int))])
  (fun z => [z.2.2.2.1, VBk w d z.2.2.2.2.2.1 z.2.2.2.2.2.2, z.2.2.2.2.1, hn, R]) (fun z => pre.length + tail.length + 1 - z.2.1) (false, 0, .slice none 0 0, [], h, 0, 0) (.inl ⟨rfl, Nat.zero_le _, IsSl.nil _, hd, rfl, rfl⟩) (by repeat (first | exact Fsub.nil | refine Fsub.cons rfl ?_)) (Hsub.of_picks inferInstance) ?_
 rintro ⟨bad, i, o, ho, y, sg, tn⟩ hP
 simp only [] at hP ⊢
 rcases hP with ⟨rfl, hi, hso, hdy, rfl, rfl⟩ | ⟨rfl, x, post, m, tl, j, ⟨rfl, hmx, rfl, rfl, rfl⟩, rfl, hj, hso, hdy, qoky, rfl, rfl, htl⟩
 ·by_cases hC : i = pre.length ∧ tail = []
  ·obtain ⟨rfl, rfl⟩ := hC
   simp only [length_nil] at hnl
   rcases hend with ⟨-, rfl, rfl, rfl, rfl⟩ | ⟨x, post, rs, tt, e, -⟩
   ·rw [append_nil] at hdy
    rw [take_length] at hso ⊢
    try refine run ?_
    exact D.fin2 [VBk w d (lastN pre) 0, y, ho] _ rfl rfl rfl ⟨w, o, y, ho, rfl, rfl, hdy, hso⟩
   ·cases e
  ·obtain ⟨q, rs, tt, hqi, hqb, hgr, hcase⟩ : ∃ q rs tt, (qp ++ tail)[i]? = some q ∧ q.b = bytes rs ++ tt ∧ (∀ r ∈ rs, r.code = 0) ∧
     ((tt = [] ∧ ∃ f, pre[i]? = some f ∧ f.n = q.n ∧ f.rs = rs) ∨ (i = pre.length ∧ ∃ post, tail = q :: post ∧ q.ts = [] ∧ Short tt ∧ tt ≠ [] ∧ seg = q.n ∧ torn = ((tt.length + (post.map (fun q => q.b.length)).sum : Nat) : Int) ∧ qs' = qp ++ [q.cut (bytes rs).length] ∧ out = outF (recs pre ++ rs))) := by
    by_cases hlt : i < pre.length
    ·obtain ⟨f, hf⟩ : ∃ f, pre[i]? = some f := ⟨_, List.getElem?_eq_getElem hlt⟩
     obtain ⟨q, hq⟩ : ∃ q, qp[i]? = some q := ⟨_, List.getElem?_eq_getElem (by omega)⟩
     have hfr := hm.get hf hq
     exact ⟨q, f.rs, [], by rw [List.getElem?_append_left (by omega)]; exact hq, by rw [append_nil]; exact hfr.b, hgd f (mem_of_getElem? hf), .inl ⟨rfl, f, hf, hfr.n.symm, rfl⟩⟩
    ·obtain rfl : i = pre.length := by omega
     rcases hend with ⟨e, -⟩ | ⟨x, post, rs, tt, e1, e2, e3, e4, e5, e6, e7, e8, e9, e10⟩
     ·exact absurd ⟨rfl, e⟩ hC
     ·exact ⟨x, rs, tt, by rw [e1, hml, List.getElem?_append_right (Nat.le_refl _), Nat.sub_self]; rfl, e2, e4, .inr ⟨rfl, post, e1, e3, e5, e6, e7, e8, e9, e10⟩⟩
   have hqm := mem_of_getElem? hqi
   have hbl := qok.bl hqm
   rw [hqb, length_append] at hbl
   have hrl : 6 * rs.length ≤ 1048576 := by
    have := bytes_count hgr
    omega
   have hrt : (recs (pre.take i)).length ≤ (recs pre).length := by
    have := congrArg (fun l => (recs l).length) (take_append_drop i pre)
    simp only [recs_app, length_append] at this; omega
   have hnI : ((qp ++ tail).map (·.n))[i]? = some q.n := by rw [List.getElem?_map, hqi]; rfl
   have hrc := rread_ct hdy qok.srt (by rw [length_map, length_append]; omega) (q_nth hqi)
   have hil : i < pre.length + tail.length := by rw [← hnl]; exact (List.getElem?_eq_some_iff.1 hnI).1
   try refine run ?_
   refine WX.call rfl hrc rfl ?_
   rintro _ _ ⟨ub, rfl, rfl, hrb⟩
   have hrb : Rs (bytes rs ++ tt) ub y := by rw [← hqb]; exact hrb
   obtain ⟨bp, bc, rfl⟩ := hrb.len
   have hbc : (bytes rs ++ tt).length ≤ bc := by obtain ⟨a, cc, e, le, _⟩ := id hrb; cases e; exact le
   have hcl : (bytes rs ++ tt).length = (bytes rs).length + tt.length := length_append
   simp only [ca, na]
   try refine run ?_
   refine W.loop (α := Nat × Value × Hp) (fun z => z.1 ≤ rs.length ∧ IsSl 108 (outF (recs (pre.take i) ++ rs.take z.1)) z.2.1 z.2.2)
    (fun z => [(0, .pointer (some ⟨d, 0, none⟩)), (4, .pointer (some ⟨w, 0, none⟩)), (5, z.2.1), (6, fu), (7, .bool false), (8, .int .i64 (i : Int)), (9, .slice bp (bytes rs ++ tt).length bc), (11, .int .i64 ((bytes (rs.take z.1)).length : Int))])
    (fun z => [y, z.2.2, VBk w d q.n 0, hn, R]) (fun z => rs.length + 1 - z.1) (0, o, ho) ⟨Nat.zero_le _, by simpa using hso⟩ (by repeat (first | exact Fsub.nil | refine Fsub.cons rfl ?_)) (Hsub.of_picks inferInstance) ?_
   rintro ⟨j, o1, ho1⟩ ⟨hj, hso1⟩
   simp only [] at hj hso1 ⊢
   have hbt := bytes_take_le rs j
   by_cases hlt : j < rs.length
   ·obtain ⟨r, hrj⟩ : ∃ r, rs[j]? = some r := ⟨_, List.getElem?_eq_getElem hlt⟩
    have hrc0 := hgr r (mem_of_getElem? hrj)
    have hgd1 := Rec.good hrc0
    have hle := hgd1.fr_le
    have htk : rs.take (j + 1) = rs.take j ++ [r] := by rw [take_succ_eq_append_getElem hlt, (List.getElem?_eq_some_iff.1 hrj).2]
    have hdj : rs.drop j = r :: rs.drop (j + 1) := by rw [drop_eq_getElem_cons hlt, (List.getElem?_eq_some_iff.1 hrj).2]
    have hat : (bytes (rs.take (j + 1))).length = (bytes (rs.take j)).length + r.fr.length := by rw [htk, bytes_app, length_append]; simp [bytes]
    have hxs : (bytes rs ++ tt).drop (bytes (rs.take j)).length = r.fr ++ (bytes (rs.drop (j + 1)) ++ tt) := by
     rw [← bytes_take_drop rs j, append_assoc, drop_left, hdj, bytes_cons, append_assoc]
    have hxl : (bytes rs ++ tt).length = (bytes (rs.take j)).length + (r.fr.length + (bytes (rs.drop (j + 1)) ++ tt).length) := by
     have := congrArg List.length hxs
     simp only [length_drop, length_append] at this ⊢
     omega
    have hcut := hrb.cut (m := 1) (lo := (bytes (rs.take j)).length) (hi := (bytes rs ++ tt).length) (mx := bc) rfl (by omega) (Nat.le_refl _) hbc
    rw [take_of_length_le (by rw [length_drop]; omega)] at hcut
    have hread := rread_ok hgd1 hxs hcut (by rw [length_drop]; omega)
    have hoc := outF_len (recs (pre.take i) ++ rs.take j)
    rw [length_append, length_take] at hoc
    try refine run ?_
    refine I.sl ?_
    refine WX.cutFrom (lo := (bytes (rs.take j)).length) rfl rfl (by omega) hbc rfl ?_
    refine WX.callQ rfl hread rfl ?_
    repeat' (first | refine mv ?_ | refine ex ?_ | fail)
    refine WX.alloc rfl (fun ba => ?_)
    refine WX.hp (H' := [[(ba, .cells Rec.z.enc.toArray 108 (0, 0))], y, ho1, VBk w d q.n 0, hn, R]) rfl ?_
    refine I.st ?_
    refine WX.storeG (vs := r.enc) (b := ba) (i := 0) (cs := Rec.z.enc) rfl rfl rfl rfl rfl rfl ?_
    rw [setAt_whole (show Rec.z.enc.length = r.enc.length from rfl)]
    by_cases hk3 : r.k = 3
    ·repeat' (first | refine WX.loadA (b := ba) (i := 0) (cs := r.enc) (vs := r.enc) rfl rfl rfl rfl ?_ | refine stp ?_ | fail)
     refine I.bs ?_
     refine WX.lit (ys := [r]) rfl rfl rfl rfl rfl rfl (by decide) rfl (fun v1 h1 hs1 => ?_)
     refine WX.app rfl rfl hso1 hs1.rs rfl rfl (by decide) (by simp only [length_cons, length_nil, length_append] at hoc ⊢; omega) rfl (fun v2 h2 hs2 => ?_)
     repeat' (first | refine WX.load (v := .int .i64 r.k) (b := ba) (i := 0) (cs := r.enc) rfl rfl rfl ?_ | refine stp ?_ | fail)
     refine D.as 11 (.int .i64 ((bytes (rs.take (j + 1))).length : Int)) rfl (by rw [hat]; rfl) ?_
     refine D.nilH ?_
     exact D.rd (j + 1, .slice none 0 0, []) ⟨by simp only []; omega, by simp only []; rw [htk, ← append_assoc, outF_snoc, if_pos hk3]; exact IsSl.nil _⟩ (by simp only []; omega)
    ·repeat' (first | refine WX.loadA (b := ba) (i := 0) (cs := r.enc) (vs := r.enc) rfl rfl rfl rfl ?_ | refine stp ?_ | fail)
     refine I.bs ?_
     refine WX.lit (ys := [r]) rfl rfl rfl rfl rfl rfl (by decide) rfl (fun v1 h1 hs1 => ?_)
     refine WX.app rfl rfl hso1 hs1.rs rfl rfl (by decide) (by simp only [length_cons, length_nil, length_append] at hoc ⊢; omega) rfl (fun v2 h2 hs2 => ?_)
     repeat' (first | refine WX.load (v := .int .i64 r.k) (b := ba) (i := 0) (cs := r.enc) rfl rfl rfl ?_ | refine stp ?_ | fail)
     refine D.as 11 (.int .i64 ((bytes (rs.take (j + 1))).length : Int)) rfl (by rw [hat]; rfl) ?_
     exact D.rd (j + 1, v2, h2) ⟨by simp only []; omega, by simp only []; rw [htk, ← append_assoc, outF_snoc, if_neg hk3]; exact hs2⟩ (by simp only []; omega)
   ·obtain rfl : j = rs.length := by omega
    rw [take_length] at hso1 hbt ⊢
    rcases hcase with ⟨rfl, f, hf, hfn, rfl⟩ | ⟨rfl, post, rfl, hts, hsh, htn, rfl, rfl, rfl, rfl⟩
    ·simp only [length_nil, Nat.add_zero] at hcl
     have hip := (List.getElem?_eq_some_iff.1 hf).1
     try refine run ?_
     rw [← recs_take hf] at hso1
     rw [← hfn, ← lastN_take hf]
     exact D.rd (false, i + 1, o1, ho1, y, lastN (pre.take (i + 1)), 0) (.inl ⟨rfl, by simp only []; omega, hso1, hdy, rfl, rfl⟩) (by simp only []; omega)
    ·obtain ⟨r, k, hrc0, hk, rfl⟩ := hsh
     have hgd1 := Rec.good hrc0
     have hle := hgd1.fr_le
     have htl : 0 < (r.fr.take k).length := length_pos_iff.2 htn
     have hkl : (r.fr.take k).length = k := by rw [length_take]; omega
     have hcut := hrb.cut (m := 1) (lo := (bytes rs).length) (hi := (bytes rs ++ r.fr.take k).length) (mx := bc) rfl (by omega) (Nat.le_refl _) hbc
     rw [take_of_length_le (by rw [length_drop]; omega), drop_left] at hcut
     have hread := rread_short hgd1 hk (by omega) rfl hcut
     rw [take_length] at hso1
     have htr := rtrunc_ct qok hdy hqi hts (m := (bytes rs).length) (by rw [hqb, length_append]; omega)
     rw [hml, q_set] at htr
     try refine run ?_
     refine I.sl ?_
     refine WX.cutFrom (lo := (bytes rs).length) rfl rfl (by omega) hbc rfl ?_
     refine WX.callQ rfl hread rfl ?_
     repeat' (first | refine mv ?_ | refine ex ?_ | fail)
     refine WX.alloc rfl (fun ba => ?_)
     refine WX.hp (H' := [[(ba, .cells Rec.z.enc.toArray 108 (0, 0))], y, ho1, VBk w d q.n 0, hn, R]) rfl ?_
     refine I.st ?_
     refine WX.storeG (vs := Rec.z.enc) (b := ba) (i := 0) (cs := Rec.z.enc) rfl rfl rfl rfl rfl rfl ?_
     rw [setAt_whole rfl]
     try refine run ?_
     refine WX.call rfl htr rfl ?_
     rintro _ _ ⟨y0, rfl, rfl, hd0⟩
     have e0 : (0 + ((bytes rs ++ r.fr.take k).length : Int) - ((bytes rs).length : Int)) = (((r.fr.take k).length + ((post.take 0).map (fun q => q.b.length)).sum : Nat) : Int) := by
      simp only [length_append, take_zero, map_nil, sum_nil]; omega
     rw [e0]
     simp only [ca, na]
     try refine run ?_
     exact D.round (true, pre.length + 1 + 0, o1, ho1, y0, q.n, (((r.fr.take k).length + ((post.take 0).map (fun q => q.b.length)).sum : Nat) : Int))
      (.inr ⟨rfl, q, post, (bytes rs).length, (r.fr.take k).length, 0, ⟨rfl, by rw [hqb, length_append]; omega, rfl, rfl, rfl⟩, rfl, Nat.zero_le _, hso1, hd0, qok.cut1 (by rw [hqb, length_append]; omega), rfl, rfl, by omega⟩) (by simp only [length_cons]; omega) (by repeat (first | exact Fsub.nil | refine Fsub.cons rfl ?_)) (Hsub.of_picks inferInstance)
 ·have htc : (x :: post).length = post.length + 1 := rfl
  rw [htc] at hnl
  by_cases hjl : j < post.length
  ·obtain ⟨q, hq⟩ : ∃ q, post[j]? = some q := ⟨_, List.getElem?_eq_getElem hjl⟩
   have hdr : post.drop j = q :: post.drop (j + 1) := by rw [drop_eq_getElem_cons hjl, (List.getElem?_eq_some_iff.1 hq).2]
   have htk : ((post.take (j + 1)).map (fun q => q.b.length)).sum = ((post.take j).map (fun q => q.b.length)).sum + q.b.length := by
    rw [take_succ_eq_append_getElem hjl, (List.getElem?_eq_some_iff.1 hq).2]; simp
   have hle2 := sum_take_le (fun q : RfQ => q.b.length) post (j + 1)
   have hus := qok.used
   rw [map_append, map_cons, sum_append, sum_cons] at hus
   have hnI : ((qp ++ x :: post).map (·.n))[pre.length + 1 + j]? = some q.n := by
    rw [List.getElem?_map, hml, List.getElem?_append_right (by omega), show qp.length + 1 + j - qp.length = j + 1 by omega, List.getElem?_cons_succ, hq]; rfl
   rw [hdr] at hdy qoky
   have hqi : (qp ++ x.cut m :: q :: post.drop (j + 1))[qp.length + 1]? = some q := by
    rw [List.getElem?_append_right (by omega), show qp.length + 1 - qp.length = 1 by omega]; rfl
   have hql := qoky.len
   have hrc := rread_ct hdy qoky.srt (by rw [length_map]; omega) (q_nth hqi)
   have hrm := rremove_ct qoky hdy hqi
   rw [q_del] at hrm
   try refine run ?_
   refine WX.call rfl hrc rfl ?_
   rintro _ _ ⟨ub, rfl, rfl, hrb⟩
   have hrb : Rs q.b ub y := hrb
   obtain ⟨bp, bc, rfl⟩ := hrb.len
   simp only [ca, na]
   try refine run ?_
   refine WX.call rfl hrm rfl ?_
   rintro _ _ ⟨y2, rfl, rfl, hd2⟩
   have e1 : (((tl + ((post.take j).map (fun q => q.b.length)).sum : Nat) : Int) + (q.b.length : Int)) = ((tl + ((post.take (j + 1)).map (fun q => q.b.length)).sum : Nat) : Int) := by rw [htk]; omega
   rw [e1]
   simp only [ca, na]
   try refine run ?_
   exact D.round (true, pre.length + 1 + (j + 1), o, ho, y2, x.n, ((tl + ((post.take (j + 1)).map (fun q => q.b.length)).sum : Nat) : Int))
    (.inr ⟨rfl, x, post, m, tl, j + 1, ⟨rfl, hmx, rfl, rfl, rfl⟩, rfl, by omega, hso, hd2, qoky.del1, rfl, rfl, htl⟩) (by simp only [length_cons]; omega) (by repeat (first | exact Fsub.nil | refine Fsub.cons rfl ?_)) (Hsub.of_picks inferInstance)
  ·obtain rfl : j = post.length := by omega
   rw [drop_length] at hdy
   rw [take_length]
   try refine run ?_
   exact D.fin2 [VBk w d x.n ((tl + (post.map (fun q => q.b.length)).sum : Nat) : Int), y, ho] _ rfl rfl rfl ⟨w, o, y, ho, rfl, rfl, hdy, hso⟩
end Go.Proofs.YtejfahjgfedliaaGreat

namespace Go.Proofs.YtejfahjgfedliaaGreat
open Go Go.Sl List
def fatL : List Lf → Nat
 | [] => 0
 | [f] => min 4096 (bytes f.rs).length
 | _ :: g :: t => 4096 + fatL (g :: t)
structure Fat (l : List Lf) (K : Nat) : Prop where
 ea : ∀ f ∈ l, (bytes f.rs).length ≤ 4400
 su : fatL l ≤ 250 * K
theorem fatL_cons {f : Lf} {l : List Lf} (h : l ≠ []) : fatL (f :: l) = 4096 + fatL l := by
 cases l with
 | nil => exact absurd rfl h
 | cons g t => rfl
theorem fatL_snoc (l : List Lf) (f : Lf) : fatL (l ++ [f]) = 4096 * l.length + min 4096 (bytes f.rs).length := by
 induction l with
 | nil => simp [fatL]
 | cons g t ih => rw [cons_append, fatL_cons (by simp), ih, length_cons]; omega
theorem fatL_len (l : List Lf) : 4096 * (l.length - 1) ≤ fatL l := by
 rcases eq_nil_or_concat l with rfl | ⟨p, f, rfl⟩
 ·simp
 ·rw [concat_eq_append, fatL_snoc]; simp
theorem Bel.fat {a b : List Lf} (h : Bel a b) : fatL a ≤ fatL b := by
 induction h with
 | nil => exact Nat.le_refl _
 | @cons a b f m h ih =>
  have hl := h.len
  cases b with
  | nil =>
   have : a = [] := length_eq_zero_iff.1 hl
   subst this
   have := bytes_take_le f.rs m
   show min 4096 (bytes (f.rs.take m)).length ≤ min 4096 (bytes f.rs).length
   omega
  | cons g t =>
   rw [fatL_cons (by intro e; rw [e] at hl; simp at hl), fatL_cons (by simp)]
   omega
theorem Bel.ea {a b : List Lf} (h : Bel a b) {n : Nat} (hb : ∀ f ∈ b, (bytes f.rs).length ≤ n) : ∀ f ∈ a, (bytes f.rs).length ≤ n := by
 induction h with
 | nil => exact hb
 | @cons a b f m h ih =>
  intro x hx
  rcases mem_cons.1 hx with rfl | hx
  ·have := bytes_take_le f.rs m
   have := hb f (mem_cons_self ..)
   show (bytes (f.rs.take m)).length ≤ n
   omega
  ·exact ih (fun y hy => hb y (mem_cons_of_mem _ hy)) x hx
theorem Fat.bel {a b : List Lf} {K : Nat} (h : Bel a b) (f : Fat b K) : Fat a K := ⟨h.ea f.ea, Nat.le_trans h.fat f.su⟩
theorem Fat.torn {a b pre : List Lf} {f g : Lf} {K : Nat} (h : Bel pre a) (hg : (bytes g.rs).length ≤ (bytes f.rs).length) (k : Fat (a ++ f :: b) K) : Fat (pre ++ [g]) K := by
 refine ⟨fun x hx => ?_, ?_⟩
 ·rcases mem_append.1 hx with hx | hx
  ·exact h.ea (fun y hy => k.ea y (mem_append_left _ hy)) x hx
  ·rw [mem_singleton.1 hx]
   have := k.ea f (by simp)
   omega
 ·have hl := h.len
  have := k.su
  rw [fatL_snoc, hl]
  rcases eq_nil_or_concat b with rfl | ⟨b', x, rfl⟩
  ·rw [fatL_snoc] at this; omega
  ·have e : a ++ f :: (b'.concat x) = (a ++ f :: b') ++ [x] := by simp
   rw [e, fatL_snoc] at this
   simp only [length_append, length_cons] at this
   omega
theorem Fat.mono {l : List Lf} {K M : Nat} (h : Fat l K) (hm : K ≤ M) : Fat l M := ⟨h.ea, by have := h.su; omega⟩
theorem Fat.nil (K : Nat) : Fat [] K := ⟨fun f hf => (nomatch hf), Nat.zero_le _⟩
theorem Fat.one {n : Int} {r : Rec} {k : Nat} (hr : r.code = 0) : Fat [⟨n, [r], k⟩] 1 := by
 have := (Rec.good hr).fr_le
 have e : (bytes [r]).length = r.fr.length := by rw [bytes_cons, bytes_nil, append_nil]
 exact ⟨fun f hf => by rw [mem_singleton.1 hf]; show (bytes [r]).length ≤ _; omega, by show min 4096 (bytes [r]).length ≤ _; omega⟩
theorem Fat.add1 {l : List Lf} {K : Nat} (h : Fat l K) (r : Rec) : Fat (ladd1 l r).1 (K + 1) := by
 unfold ladd1
 split
 ·exact h.mono (by omega)
 ·rename_i hr
  have hr : r.code = 0 := by simpa using hr
  have hle := (Rec.good hr).fr_le
  split
  ·exact (Fat.one hr).mono (by omega)
  ·rename_i f hf
   obtain ⟨p, rfl⟩ := List.getLast?_eq_some_iff.1 hf
   have hs := h.su
   rw [fatL_snoc] at hs
   have hea := h.ea
   split
   ·split
    ·exact h.mono (by omega)
    ·refine ⟨fun x hx => ?_, ?_⟩
     ·rcases mem_append.1 hx with hx | hx
      ·exact hea x hx
      ·rw [mem_singleton.1 hx, show (bytes [r]).length = r.fr.length by rw [bytes_cons, bytes_nil, append_nil]]; omega
     ·show fatL ((p ++ [f]) ++ [_]) ≤ _
      rw [fatL_snoc]
      show 4096 * (p ++ [f]).length + min 4096 (bytes [r]).length ≤ _
      rw [show (bytes [r]).length = r.fr.length by rw [bytes_cons, bytes_nil, append_nil]]
      simp only [length_append, length_cons, length_nil]
      omega
   ·rename_i h4
    split
    ·exact h.mono (by omega)
    ·have eb : (bytes (f.rs ++ [r])).length = (bytes f.rs).length + r.fr.length := by rw [bytes_app, bytes_cons, bytes_nil, append_nil, length_append]
     rw [dropLast_concat]
     refine ⟨fun x hx => ?_, ?_⟩
     ·rcases mem_append.1 hx with hx | hx
      ·exact hea x (mem_append_left _ hx)
      ·rw [mem_singleton.1 hx]; show (bytes (f.rs ++ [r])).length ≤ _; omega
     ·show fatL (p ++ [_]) ≤ _
      rw [fatL_snoc]
      show 4096 * p.length + min 4096 (bytes (f.rs ++ [r])).length ≤ _
      omega
theorem bytes_full (f : Lf) : f.full.rs = f.rs := rfl
theorem fatL_sync (l : List Lf) : fatL (lsync l) = fatL l := by
 rcases eq_nil_or_concat l with rfl | ⟨p, f, rfl⟩
 ·rfl
 ·rw [concat_eq_append]
  unfold lsync
  rw [map_append, map_cons, map_nil, fatL_snoc, fatL_snoc, length_map]; rfl
theorem Fat.sync {l : List Lf} {K : Nat} (h : Fat l K) : Fat (lsync l) K := by
 refine ⟨fun x hx => ?_, by rw [fatL_sync]; exact h.su⟩
 unfold lsync at hx
 obtain ⟨y, hy, rfl⟩ := mem_map.1 hx
 exact h.ea y hy
theorem Fat.room {l : List Lf} {K : Nat} (h : Fat l K) (hK : K ≤ 900) {n : Int} (h0 : 0 ≤ n) (h2 : n ≤ 2) : roomB l n = true := by
 have h1 := fatL_len l
 have hs := h.su
 have hl : l.length ≤ 55 := by omega
 have hu : (dk l).used ≤ 4400 * l.length := by
  rw [dk_used]
  have := h.ea
  clear hs h1 hl h
  induction l with
  | nil => simp
  | cons f t ih =>
   have h1 := this f (mem_cons_self ..)
   have h2 := ih fun x hx => this x (mem_cons_of_mem _ hx)
   simp only [map_cons, sum_cons, length_cons]
   omega
 unfold roomB
 rw [decide_eq_true_iff]
 exact ⟨h0, by omega, by omega, by omega⟩
end Go.Proofs.YtejfahjgfedliaaGreat

namespace Go.Proofs.YtejfahjgfedliaaGreat
open Go Go.Sl Go.Proofs.Tryz List
theorem vopen_whole {l : List Lf} (ok : LOk l) {d : Nat} {h : Hp} {T : Int} (hd : RD l d h T) :
  Ct prog 49 [.pointer (some ⟨d, 0, none⟩)] [h] (fun res H' => ∃ w u h' ho, res = .tuple #[.pointer (some ⟨w, 0, none⟩), u] ∧ H' = [VBk w d (lastN l) 0, h', ho] ∧ RD l d h' T ∧ IsSl 108 (outF (recs l)) u ho) := by
 obtain ⟨qs, t, lr, ht, hd⟩ := hd
 have hc := recs_count ok.good
 have hu := ok.used
 have hd' : IsRk ((qs ++ []).map RfQ.pl) t d h := by rw [append_nil]; exact hd
 refine Ct.mono (vopen_ct (tail := []) lr.m ok.good (by rw [append_nil]; exact lr.q ok.toLUp) hd' (by omega) (.inl ⟨rfl, rfl, rfl, rfl, rfl⟩)) ?_
 rintro r H' ⟨w, u, h', ho, e1, e2, e3, e4⟩
 exact ⟨w, u, h', ho, e1, e2, ⟨qs, t, lr, ht, e3⟩, e4⟩
theorem full_loose0 {l : List Lf} (h : ∀ f ∈ l, f.full = f) : (dk l).loose = [] := by
 unfold dk
 rw [flatten_eq_nil_iff]
 intro z hz
 obtain ⟨x, hx, rfl⟩ := mem_map.1 hz
 rw [← h x hx]
 exact x.full_ps
theorem fr_full {f : Lf} (h : f.full = f) : FR f (fq f.file) := by
 have hs : f.s7 = (bytes f.rs).length := by
  have := congrArg Lf.k h
  unfold Lf.s7
  rw [show f.k = f.rs.length from this.symm, take_length]
 exact ⟨rfl, rfl, rfl, by show f.s7 + 0 = _; rw [hs]; rfl⟩
theorem all_full : ∀ {l : List Lf}, (∀ f ∈ l, f.full = f) → All2 FR l (l.map fun f => fq f.file)
 | [], _ => .nil
 | f :: t, h => .cons (fr_full (h f (mem_cons_self ..))) (all_full fun x hx => h x (mem_cons_of_mem _ hx))
theorem fq_allT (xs : List FileP) : allT (xs.map fq) = [] := by
 unfold allT
 rw [flatten_eq_nil_iff]
 intro z hz
 obtain ⟨x, hx, rfl⟩ := mem_map.1 hz
 obtain ⟨y, _, rfl⟩ := mem_map.1 hx
 rfl
theorem both_openK {l : List Lf} (ok : LOk l) (q : Nat) : ∃ l' torn, LOk l' ∧ ((∀ f ∈ l', f.full = f) ∧ sumK l ≤ keptN l q ∧ keptN l q ≤ (recs l).length ∧ recs l' = (recs l).take (keptN l q) ∧ ((looseB l ≤ q → torn = 0) ∧ ∀ K, Fat l K → Fat l' K) ∧ (lastN l' ≤ lastN l)) ∧
  (∀ {d : Nat} {h : Hp}, IsDk ⟨crashL l q, []⟩ d h → Ct prog 45 [.pointer (some ⟨d, 0, none⟩)] [h] (fun res H' => ∃ w u h' ho, res = .tuple #[.pointer (some ⟨w, 0, none⟩), u] ∧ H' = [WBk w d (lastN l') torn, h', ho] ∧ IsDk (dk l') d h' ∧ IsSl 108 (outF (recs l')) u ho)) ∧
  (∀ {d : Nat} {h : Hp} {t T : Int}, 0 ≤ t → t ≤ T → IsRk (((crashL l q).map fq).map RfQ.pl) t d h → Ct prog 49 [.pointer (some ⟨d, 0, none⟩)] [h] (fun res H' => ∃ w u h' ho, res = .tuple #[.pointer (some ⟨w, 0, none⟩), u] ∧ H' = [VBk w d (lastN l') torn, h', ho] ∧ RD l' d h' T ∧ IsSl 108 (outF (recs l')) u ho)) := by
 rcases crash_splitK l q ok.good ok.k ok.tail with ⟨l', m, h1, h2, h3, h4, h5, hm⟩ | ⟨a, f, b, pre, j, t, m, h1, h2, h3, h4, h5, h6, h7, h8, h9, hm, hq⟩
 ·have ok' := h2.ok ok
  subst hm
  refine ⟨l', 0, ok', ⟨h2.full, h3, h4, h5, ⟨fun _ => rfl, fun K hK => hK.bel h2⟩, by rw [h2.lastN]; exact Int.le_refl _⟩, fun {d h} hd => ?_, fun {d h t T} ht0 ht hd => ?_⟩
  ·have e : (⟨crashL l q, []⟩ : DkS) = dk l' := by
    have := full_loose0 h2.full
    unfold dk at this ⊢
    rw [h1]
    simp only [] at this
    rw [this]
   rw [e] at hd
   exact open_whole ok' hd
  ·rw [h1] at hd
   have e : (l'.map Lf.file).map fq = l'.map fun f => fq f.file := by rw [map_map]; rfl
   rw [e] at hd
   refine vopen_whole ok' ⟨_, t, ⟨all_full h2.full, ?_, ?_, ht0⟩, ht, hd⟩
   ·rw [← e, fq_allT]; exact .nil
   ·rw [← e, fq_allT]; simp
 ·subst hm
  obtain ⟨ox, ok2⟩ := crash_xok ok h1 h2 h6
  have hg : ∀ r ∈ f.rs.take j, r.code = 0 := fun r hr => ok.good f (by rw [h1]; simp) r (mem_of_mem_take hr)
  refine ⟨pre ++ [⟨f.n, f.rs.take j, (f.rs.take j).length⟩], ((t.length + ((b.map (fun g => (⟨g.n, [], 0⟩ : FileP))).map (·.b.length)).sum : Nat) : Int), ok2, ⟨fun x hx => ?_, h7, h8, by rw [recs_app, recs_one]; exact h9, ⟨fun h => absurd h (by omega), fun K hK => by rw [h1] at hK; exact hK.torn h2 (bytes_take_le f.rs j)⟩, ?_⟩, fun {d h} hd => ?_, fun {d h tm T} ht0 ht hd => ?_⟩
  ·rcases mem_append.1 hx with hx | hx
   ·exact h2.full x hx
   ·rw [mem_singleton.1 hx]; rfl
  ·rw [lastN_app]
   rcases eq_nil_or_concat b with rfl | ⟨b', g, rfl⟩
   ·rw [h1, lastN_app]; exact Int.le_refl _
   ·rw [h1, concat_eq_append, show a ++ f :: (b' ++ [g]) = (a ++ f :: b') ++ [g] by simp, lastN_app]
    have hup := ok.up
    rw [h1, pairwise_append, pairwise_cons] at hup
    exact Int.le_of_lt (hup.2.1.1 g (by rw [concat_eq_append]; simp))
  ·have e : (⟨crashL l q, []⟩ : DkS) = dkX pre ⟨f.n, bytes (f.rs.take j) ++ t, (bytes (f.rs.take j) ++ t).length⟩ (b.map (fun g => ⟨g.n, [], 0⟩)) := by unfold dkX; rw [h3]
   rw [e] at hd
   refine Ct.mono (open_torn ox rfl rfl hg h4 h5 hd) ?_
   rintro r H' ⟨w, u, h', ho, e1, e2, e3, e4⟩
   exact ⟨w, u, h', ho, e1, by rw [lastN_app]; exact e2, e3, by rw [recs_app, recs_one]; exact e4⟩
  ·rw [h3] at hd
   have hpf := ox.full
   have e : (pre.map Lf.file ++ (⟨f.n, bytes (f.rs.take j) ++ t, (bytes (f.rs.take j) ++ t).length⟩ : FileP) :: b.map (fun g => ⟨g.n, [], 0⟩)).map fq = (pre.map fun f => fq f.file) ++ fq ⟨f.n, bytes (f.rs.take j) ++ t, (bytes (f.rs.take j) ++ t).length⟩ :: (b.map fun g => fq ⟨g.n, [], 0⟩) := by
    rw [map_append, map_cons, map_map, map_map]; rfl
   have hqo : QOk ((pre.map fun f => fq f.file) ++ fq ⟨f.n, bytes (f.rs.take j) ++ t, (bytes (f.rs.take j) ++ t).length⟩ :: (b.map fun g => fq ⟨g.n, [], 0⟩)) := by
    rw [← e]
    refine ⟨?_, ?_, ?_, ?_⟩
    ·rw [map_map]; exact ox.up
    ·intro y hy
     rw [e] at hy
     rcases mem_append.1 hy with hy | hy
     ·obtain ⟨g', hg', rfl⟩ := mem_map.1 hy
      exact ⟨(fr_full (hpf g' hg')).e, by show ∀ x ∈ [], _; simp⟩
     ·rcases mem_cons.1 hy with rfl | hy
      ·exact ⟨rfl, by show ∀ x ∈ [], _; simp⟩
      ·obtain ⟨g', _, rfl⟩ := mem_map.1 hy
       exact ⟨rfl, by show ∀ x ∈ [], _; simp⟩
    ·rw [map_map]; exact ox.used
    ·rw [length_map]; exact ox.len
   rw [e] at hd
   have hc := recs_count (l := pre) ox.good
   have hup := ox.used
   unfold DkS.used dkX at hup
   simp only [map_append, sum_append] at hup
   rw [dk_used] at hc
   have hme : ((pre.map Lf.file).map (fun x => x.b.length)) = pre.map (fun f => (bytes f.rs).length) := by rw [map_map]; rfl
   rw [hme] at hup
   refine Ct.mono (vopen_ct (all_full hpf) ox.good hqo hd (by omega) (.inr ⟨_, _, f.rs.take j, t, rfl, rfl, rfl, hg, h4, h5, rfl, rfl, rfl, rfl⟩)) ?_
   rintro r H' ⟨w, u, h', ho, e1, e2, e3, e4⟩
   refine ⟨w, u, h', ho, e1, ?_, ⟨_, tm, ⟨(all_full hpf).app (.cons ⟨rfl, ?_, ?_, ?_⟩ .nil), ?_, ?_, ht0⟩, ht, e3⟩, by rw [recs_app, recs_one]; exact e4⟩
   ·rw [lastN_app, e2]
    rw [map_map, map_map]
    rfl
   ·show (bytes (f.rs.take j) ++ t).take (bytes (f.rs.take j)).length = _; rw [take_left]
   ·show (bytes (f.rs.take j)).length = _; unfold Lf.s7; simp only [take_length]
   ·show (bytes (f.rs.take j)).length + 0 = ((bytes (f.rs.take j) ++ t).take (bytes (f.rs.take j)).length).length; rw [take_left]; omega
   ·rw [allT_app, allT_one, show (pre.map fun f => fq f.file) = (pre.map Lf.file).map fq from by rw [map_map]; rfl, fq_allT]; exact .nil
   ·rw [allT_app, allT_one, show (pre.map fun f => fq f.file) = (pre.map Lf.file).map fq from by rw [map_map]; rfl, fq_allT]; intro x hx; cases hx
end Go.Proofs.YtejfahjgfedliaaGreat

namespace Go.Proofs.YtejfahjgfedliaaGreat
open Go Go.Sl
end Go.Proofs.YtejfahjgfedliaaGreat

namespace Go.Proofs.YtejfahjgfedliaaGreat
open Go Go.Sl List
structure Ch where
 ep : Int
 ms : List Mem
 ln : Option Mem
 deriving DecidableEq
def Ch.all (c : Ch) : List Mem := c.ms ++ c.ln.toList
def Ch.cfg (c : Ch) : Cfg := ⟨c.ep, (c.ms.length : Int), c.ms.getD 0 Mem.z, c.ms.getD 1 Mem.z, c.ms.getD 2 Mem.z, c.ms.getD 3 Mem.z, c.ln.isSome, c.ln.getD Mem.z⟩
structure ChOk (c : Ch) : Prop where
 e1 : 1 ≤ c.ep
 e2 : c.ep ≤ 1099511627776
 l1 : 1 ≤ c.ms.length
 up : (c.all.map (·.nd)).Pairwise (· ≠ ·)
 rg : ∀ m ∈ c.all, 0 ≤ m.nd ∧ m.nd < 4 ∧ 1 ≤ m.sn ∧ m.sn ≤ c.ep
theorem four : ∀ {l : List Int}, l.Pairwise (· ≠ ·) → (∀ x ∈ l, 0 ≤ x ∧ x < 4) → l.length ≤ 4
 | [], _, _ => by decide
 | [_], _, _ => by simp
 | [_, _], _, _ => by simp
 | [_, _, _], _, _ => by simp
 | [_, _, _, _], _, _ => by simp
 | a :: b :: c :: d :: e :: t, h, k => by
  have ha := k a (by simp); have hb := k b (by simp); have hc := k c (by simp); have hd := k d (by simp); have he := k e (by simp)
  simp only [pairwise_cons, mem_cons, forall_eq_or_imp] at h
  obtain ⟨⟨h1, h2, h3, h4, _⟩, ⟨h5, h6, h7, _⟩, ⟨h8, h9, _⟩, ⟨h10, _⟩, _⟩ := h
  exfalso; omega
theorem ChOk.l4 {c : Ch} (h : ChOk c) : c.ms.length + c.ln.toList.length ≤ 4 := by
 have := four h.up (fun x hx => by
  obtain ⟨m, hm, rfl⟩ := mem_map.1 hx
  exact ⟨(h.rg m hm).1, (h.rg m hm).2.1⟩)
 rw [length_map] at this
 unfold Ch.all at this
 rw [length_append] at this
 exact this
def firstCh (n : Nat) : Ch := ⟨1, (List.range n).map fun (i : Nat) => ⟨(i : Int), 1⟩, none⟩
theorem first_ok {n : Nat} (h1 : 1 ≤ n) (h2 : n ≤ 4) : ChOk (firstCh n) := by
 refine ⟨Int.le_refl 1, by show (1 : Int) ≤ 1099511627776; decide, by simpa [firstCh] using h1, ?_, ?_⟩
 ·match n, h1, h2 with
  | 1, _, _ => decide
  | 2, _, _ => decide
  | 3, _, _ => decide
  | 4, _, _ => decide
 ·match n, h1, h2 with
  | 1, _, _ => decide
  | 2, _, _ => decide
  | 3, _, _ => decide
  | 4, _, _ => decide
def Ch.has (c : Ch) (n : Int) : Bool := c.ms.any fun m => m.nd == n
theorem Ch.has_iff {c : Ch} {n : Int} : c.has n = true ↔ ∃ m ∈ c.ms, m.nd = n := by simp [Ch.has]
def addL (c : Ch) (n : Int) : Option Ch := if c.ep = 1099511627776 ∨ c.ln.isSome = true ∨ n < 0 ∨ 4 ≤ n ∨ c.has n = true then none else some ⟨c.ep + 1, c.ms, some ⟨n, c.ep + 1⟩⟩
def dropL (c : Ch) (n : Int) : Option Ch :=
 if c.ep = 1099511627776 then none
 else if c.ln.any (fun m => m.nd == n) = true then some ⟨c.ep + 1, c.ms, none⟩
 else if c.has n = false ∨ c.ms.length = 1 then none
 else some ⟨c.ep + 1, c.ms.filter fun m => m.nd != n, c.ln⟩
def growL (c : Ch) : Option Ch := if c.ep = 1099511627776 then none else match c.ln with
 | none => none
 | some m => some ⟨c.ep + 1, c.ms ++ [m], none⟩
theorem ChOk.addL {c c' : Ch} {n : Int} (h : ChOk c) (e : addL c n = some c') : ChOk c' := by
 unfold Go.Proofs.YtejfahjgfedliaaGreat.addL at e
 split at e
 ·cases e
 ·rename_i hn
  simp only [not_or] at hn
  obtain ⟨n1, n2, n3, n4, n5⟩ := hn
  cases e
  have e1 := h.e1; have e2 := h.e2
  have hl : c.ln = none := by cases hl : c.ln with | none => rfl | some m => simp [hl] at n2
  have ha : c.all = c.ms := by simp [Ch.all, hl]
  refine ⟨by simp only []; omega, by simp only []; omega, h.l1, ?_, ?_⟩
  ·have := h.up
   rw [ha] at this
   simp only [Ch.all, Option.toList, map_append, map_cons, map_nil]
   refine pairwise_append.2 ⟨this, pairwise_singleton .., fun x hx y hy => ?_⟩
   rw [mem_singleton.1 hy]
   obtain ⟨m, hm, rfl⟩ := mem_map.1 hx
   intro he
   exact n5 (Ch.has_iff.2 ⟨m, hm, he⟩)
  ·intro m hm
   simp only [Ch.all, Option.toList] at hm
   rcases mem_append.1 hm with hm | hm
   ·have := h.rg m (by rw [ha]; exact hm)
    simp only []; omega
   ·rw [mem_singleton.1 hm]; simp only []; omega
theorem ChOk.growL {c c' : Ch} (h : ChOk c) (e : growL c = some c') : ChOk c' := by
 unfold Go.Proofs.YtejfahjgfedliaaGreat.growL at e
 split at e
 ·cases e
 ·rename_i n1
  have e1 := h.e1; have e2 := h.e2
  cases hl : c.ln with
  | none => rw [hl] at e; cases e
  | some m =>
   rw [hl] at e
   cases e
   have ha : c.all = c.ms ++ [m] := by simp [Ch.all, hl]
   refine ⟨by simp only []; omega, by simp only []; omega, by simp, ?_, ?_⟩
   ·have := h.up
    rw [ha] at this
    simpa [Ch.all] using this
   ·intro x hx
    have hx : x ∈ c.all := by rw [ha]; simpa [Ch.all] using hx
    have := h.rg x hx
    simp only []; omega
theorem ChOk.dropL {c c' : Ch} {n : Int} (h : ChOk c) (e : dropL c n = some c') : ChOk c' := by
 unfold Go.Proofs.YtejfahjgfedliaaGreat.dropL at e
 have e1 := h.e1; have e2 := h.e2
 split at e
 ·cases e
 ·split at e
  ·cases e
   have hs : c.ms.Sublist c.all := sublist_append_left ..
   refine ⟨by simp only []; omega, by simp only []; omega, h.l1, ?_, ?_⟩
   ·have := List.Pairwise.sublist (hs.map (·.nd)) h.up
    simpa [Ch.all] using this
   ·intro x hx
    have hx : x ∈ c.ms := by simpa [Ch.all] using hx
    have := h.rg x (hs.subset hx)
    simp only []; omega
  ·split at e
   ·cases e
   ·rename_i n1 n2 n3
    cases e
    simp only [not_or] at n3
    obtain ⟨n3, n4⟩ := n3
    have hs : (c.ms.filter (fun m => m.nd != n) ++ c.ln.toList).Sublist c.all := List.Sublist.append (filter_sublist ..) (List.Sublist.refl _)
    refine ⟨by simp only []; omega, by simp only []; omega, ?_, List.Pairwise.sublist (hs.map (·.nd)) h.up, ?_⟩
    ·simp only []
     have l1 := h.l1
     have hu : (c.ms.map (·.nd)).Pairwise (· ≠ ·) := List.Pairwise.sublist ((sublist_append_left c.ms c.ln.toList).map (·.nd)) h.up
     match hm : c.ms with
     | [] => rw [hm] at l1; simp at l1
     | [a] => rw [hm] at n4; simp at n4
     | a :: b :: t =>
      rw [hm] at hu
      simp only [map_cons, pairwise_cons, mem_cons, forall_eq_or_imp] at hu
      have hab := hu.1.1
      by_cases h1 : a.nd = n
      ·have h2 : b.nd ≠ n := by omega
       simp [filter_cons, h1, h2]
      ·simp [filter_cons, h1]
    ·intro x hx
     have := h.rg x (hs.subset hx)
     simp only []; omega
end Go.Proofs.YtejfahjgfedliaaGreat

namespace Go.Sl
open Go List
def arAt (b off m n l : Nat) : Addr := if n = l then ⟨b, off, none⟩ else ⟨b, off + l * m, none⟩
section
variable {g : World} {P : Program} {ops : Array Oper} {Q : Exit → Act → World → Prop} {q : Bool} {n d ty : Nat} {pos : String} {af : Array Edge} {rest : List Oper} {L : Fm} {H : HH}
variable {x i j : Operand} {t e m lo hi len b off : Nat} {ag : Bool} {kd kd' : IntKind}
theorem WX.arTo (hx : ev L x = some (.pointer (some ⟨b, off, none⟩))) (hj' : ev L j = some (.int kd' (hi : Int))) (h2 : hi ≤ len) [ht : TU P t (.array len e)] [hl : TL P e m ag]
  (hd : Nat.blt d n = true) (kk : WX q g P ops Q n rest ((d, .slice (some ⟨b, off, none⟩) hi len) :: L) H) : WX q g P ops Q n (⟨some d, .slice t x none (some j) none, ty, pos, af, none⟩ :: rest) L H :=
 WX.val (fun a' ha w hw => by
  have e0 : ∀ k : Nat, (if k = 0 then (⟨b, off, none⟩ : Addr) else (⟨b, off, none⟩ : Addr).add (0 * m)) = ⟨b, off, none⟩ := fun k => by split <;> simp [add_none]
  simp [execOp, ha.ev hx, ha.ev hj', Instr.sliceAt, Instr.sureAddr, Instr.sliceBounds, bound_ok h2, ht.run, hl.sizeOf, add_none]) hd kk
theorem WX.arFrom (hx : ev L x = some (.pointer (some ⟨b, off, none⟩))) (hi' : ev L i = some (.int kd (lo : Int))) (h1 : lo ≤ len) [ht : TU P t (.array len e)] [hl : TL P e m ag]
  (hd : Nat.blt d n = true) (kk : WX q g P ops Q n rest ((d, .slice (some (arAt b off m len lo)) (len - lo) (len - lo)) :: L) H) : WX q g P ops Q n (⟨some d, .slice t x (some i) none none, ty, pos, af, none⟩ :: rest) L H :=
 WX.val (fun a' ha w hw => by
  simp [execOp, ha.ev hx, ha.ev hi', Instr.sliceAt, Instr.sureAddr, Instr.sliceBounds, bound_ok h1, ht.run, hl.sizeOf, add_none, arAt]) hd kk
theorem WX.arCut (hx : ev L x = some (.pointer (some ⟨b, off, none⟩))) (hi' : ev L i = some (.int kd (lo : Int))) (hj' : ev L j = some (.int kd' (hi : Int))) (h1 : lo ≤ hi) (h2 : hi ≤ len) [ht : TU P t (.array len e)] [hl : TL P e m ag]
  (hd : Nat.blt d n = true) (kk : WX q g P ops Q n rest ((d, .slice (some (arAt b off m len lo)) (hi - lo) (len - lo)) :: L) H) : WX q g P ops Q n (⟨some d, .slice t x (some i) (some j) none, ty, pos, af, none⟩ :: rest) L H :=
 WX.val (fun a' ha w hw => by
  simp [execOp, ha.ev hx, ha.ev hi', ha.ev hj', Instr.sliceAt, Instr.sureAddr, Instr.sliceBounds, bound_ok h1, bound_ok h2, ht.run, hl.sizeOf, add_none, arAt]) hd kk
theorem WX.copyIn {y : Operand} {t2 dl dc sl sc T i0 j0 : Nat} {cs vs : List Value} {K : Obj → HH} (hx : ev L x = some (.slice (some ⟨b, i0, none⟩) dl dc)) (hy : ev L y = some (.slice (some ⟨b, j0, none⟩) sl sc)) [ht : TU P t (.slice e)] [hl : TL P e m ag]
  [hf : Foc b (.cells (List.toArray cs) T (0, 0)) H K] (hv : (cs.drop j0).take (Nat.min sl dl * m) = vs) (hvl : vs.length = Nat.min sl dl * m) (h1 : oneCells vs = true) (hb : Nat.ble (i0 + vs.length) cs.length = true)
  (hd : Nat.blt d n = true) (k : WX false g P ops Q n rest ((d, .int .i64 (Nat.min sl dl : Int)) :: L) (K (.cells (List.toArray (setAt cs i0 vs)) T (0, 0)))) :
  WX false g P ops Q n (⟨some d, .call ⟨.builtin .copy, #[x, y], #[t, t2]⟩, ty, pos, af, none⟩ :: rest) L H :=
 WX.eff hd (fun a w ha hw => by
  obtain ⟨w', e1, e2, e3, e4⟩ := run_storeCells (P := P) vs i0 0 cs w (hf.heap hw) (by have := Nat.le_of_ble_eq_true hb; omega) h1
  have e5 := run_loadCells_list (P := P) w ⟨b, j0, none⟩ vs (fun j v he => by
   rw [add_none, cell_bk (hf.heap hw)]
   have hlt := (List.getElem?_eq_some_iff.1 he).1
   rw [← hv, List.getElem?_take, if_pos (by omega), List.getElem?_drop] at he
   exact he)
  rw [hvl] at e5
  refine ⟨_, w', _, run_bi (args := [x, y]) (r := .int .i64 (Nat.min sl dl : Int)) (by simp [ha.ev hx, ha.ev hy]; rfl) ?_, hf.set hw e2 e3 e4, k⟩
  simp [builtin, Builtin.copy_, Builtin.lenOf, Builtin.firstCells, ht.run, hl.sizeOf, e5, e1, goInt])
end
section
variable {α : Type} [Enc α]
theorem Rs.part {b o T c : Nat} {fr : Nat × Nat} {pre post cs : List Value} {xs : List α} (hcs : cs = pre ++ (encs xs ++ post)) (ho : pre.length = o) (hc : xs.length ≤ c) : Rs xs (.slice (some ⟨b, o, none⟩) xs.length c) [(b, .cells (List.toArray cs) T fr)] := by
 subst hcs; subst ho
 refine ⟨_, _, rfl, hc, fun k y hk => ⟨b, pre.length, rfl, fun j u hu g w hw => ?_⟩⟩
 have hj : j < Enc.sz α := by have := (List.getElem?_eq_some_iff.1 hu).1; rwa [Enc.len] at this
 rw [cell_bk (hw.2.2 b _ (mem_cons_self)), List.getElem?_append_right (by omega), show pre.length + (k * Enc.sz α + j) - pre.length = k * Enc.sz α + j by omega, encs_get hk hj, hu]
theorem Rs.none {v : Value} {p : Option Addr} {c : Nat} (h : Hp) (e : v = .slice p 0 c) : Rs ([] : List α) v h := ⟨p, c, e, Nat.zero_le _, fun k y hk => by simp at hk⟩
end
end Go.Sl

namespace Go.Proofs.YtejfahjgfedliaaGreat
open Go Go.Sl Go.Proofs.Tryz List
def Mem.enc (m : Mem) : List Value := [.int .i64 m.nd, .int .i64 m.sn]
instance : Enc Mem := ⟨2, Mem.enc, fun _ => rfl, fun _ => rfl, by decide⟩
abbrev CfBk (b : Nat) (c : Cfg) : Hp := [(b, .cells (List.toArray c.enc) 34 (0, 0))]
theorem cfg_ms {c : Ch} (h : c.ms.length ≤ 4) : ∃ post, c.cfg.enc = [.int .i64 c.cfg.ep, .int .i64 c.cfg.n] ++ (encs c.ms ++ post) := by
 obtain ⟨ep, ms, ln⟩ := c
 simp only [] at h
 match ms, h with
 | [], _ => exact ⟨_, rfl⟩
 | [_], _ => exact ⟨_, rfl⟩
 | [_, _], _ => exact ⟨_, rfl⟩
 | [_, _, _], _ => exact ⟨_, rfl⟩
 | [_, _, _, _], _ => exact ⟨_, rfl⟩
theorem cfg_rs {c : Ch} (h : c.ms.length ≤ 4) (b : Nat) : Rs c.ms (.slice (some ⟨b, 2, none⟩) c.ms.length 4) (CfBk b c.cfg) := by
 obtain ⟨post, e⟩ := cfg_ms h
 exact Rs.part e rfl h
theorem cloneM_ct {xs : List Mem} {v : Value} {h : Hp} (hs : Rs xs v h) (hl : xs.length ≤ 1000000) :
  Ct prog 140 [v] [h] (fun r H' => ∃ h', IsSl 31 xs r h' ∧ H' = [h', h]) := by
 obtain ⟨p, c, rfl⟩ := hs.len
 refine Ct.mk' func140 rfl rfl rfl (fun g R => ?_)
 try simp only [ca]
 simp only [na]
 cases p with
 | none =>
  have hx : xs = [] := by
   obtain ⟨a, c', e, _, f⟩ := hs
   cases e
   cases xs with
   | nil => rfl
   | cons y r => obtain ⟨b, off, e, _⟩ := f 0 y rfl; cases e
  subst hx
  repeat' (first | refine run ?_ | refine WX.eqlN rfl rfl rfl ?_ | fail)
  exact D.fin1 [[], h] _ rfl rfl ⟨_, IsSl.nil _, rfl⟩
 | some a =>
  repeat' (first | refine run ?_ | refine WX.eqlN rfl rfl rfl ?_ | fail)
  refine I.bs ?_
  refine WX.lit (ys := ([] : List Mem)) (vs := []) rfl rfl rfl rfl rfl rfl (by decide) rfl (fun v1 h1 hs1 => ?_)
  try refine run ?_
  refine WX.app rfl rfl hs1 hs rfl rfl (by decide) (by simp only [length_nil]; omega) rfl (fun v2 h2 hs2 => ?_)
  rw [nil_append] at hs2
  try refine run ?_
  exact D.fin1 [h2, h] _ rfl rfl ⟨_, hs2, rfl⟩
theorem members4_ct {c : Ch} (h4 : c.ms.length ≤ 4) :
  Ct prog 85 [.agg (List.toArray c.cfg.enc)] [] (fun r H' => ∃ h', IsSl 31 c.all r h' ∧ H' = [h']) := by
 have hrs := cfg_rs h4
 obtain ⟨ep, ms, ln⟩ := c
 simp only [] at h4 hrs
 refine Ct.mk' func85 rfl rfl rfl (fun g R => ?_)
 try simp only [ca]
 simp only [na]
 cases ln with
 | none =>
  repeat' (first | refine run ?_ | refine bx rfl (fun _ => ?_) | fail)
  rename_i b
  refine WX.arTo (hi := ms.length) rfl rfl h4 rfl ?_
  skip
  refine WX.call rfl (cloneM_ct (hrs b) (by omega)) rfl ?_
  rintro _ _ ⟨h1, hs1, rfl⟩
  simp only [ca, na]
  try refine run ?_
  exact D.fin1 [h1] _ rfl rfl ⟨h1, by simpa [Ch.all] using hs1, rfl⟩
 | some m =>
  repeat' (first | refine run ?_ | refine bx rfl (fun _ => ?_) | fail)
  rename_i b
  refine WX.arTo (hi := ms.length) rfl rfl h4 rfl ?_
  skip
  refine WX.call rfl (cloneM_ct (hrs b) (by omega)) rfl ?_
  rintro _ _ ⟨h1, hs1, rfl⟩
  simp only [ca, na]
  try refine run ?_
  refine I.bs ?_
  refine WX.lit (ys := [m]) rfl rfl rfl rfl rfl rfl (by decide) rfl (fun v2 h2 hs2 => ?_)
  skip
  refine WX.app rfl rfl hs1 hs2.rs rfl rfl (by decide) (by simp only [length_cons, length_nil]; omega) rfl (fun v3 h3 hs3 => ?_)
  try refine run ?_
  exact D.fin1 [h3] _ rfl rfl ⟨h3, by simpa [Ch.all] using hs3, rfl⟩
theorem members_ct {c : Ch} (ok : ChOk c) :
  Ct prog 85 [.agg (List.toArray c.cfg.enc)] [] (fun r H' => ∃ h', IsSl 31 c.all r h' ∧ H' = [h']) :=
 members4_ct (by have := ok.l4; omega)
theorem node_ct (n : Int) : Ct prog 132 [.int .i64 n] [] (fun r H' => r = .bool (decide (0 ≤ n ∧ n < 4)) ∧ H' = []) := by
 refine Ct.mk' func132 rfl rfl rfl (fun g R => ?_)
 try simp only [ca]
 simp only [na]
 by_cases h0 : 0 ≤ n
 ·try refine run ?_
  exact D.fin1 [] _ rfl rfl ⟨by simp [h0], rfl⟩
 ·try refine run ?_
  exact D.fin1 [] _ rfl rfl ⟨by simp [h0], rfl⟩
def seenL (l : List Mem) : List Value := [.bool (l.any fun m => m.nd == 0), .bool (l.any fun m => m.nd == 1), .bool (l.any fun m => m.nd == 2), .bool (l.any fun m => m.nd == 3)]
theorem seen_get {l : List Mem} {n : Int} (h0 : 0 ≤ n) (h4 : n < 4) : (seenL l)[n.toNat]? = some (.bool (l.any fun m => m.nd == n)) := by
 rcases (by omega : n = 0 ∨ n = 1 ∨ n = 2 ∨ n = 3) with rfl | rfl | rfl | rfl <;> rfl
theorem seen_set {l : List Mem} {m : Mem} (h0 : 0 ≤ m.nd) (h4 : m.nd < 4) : (seenL l).set m.nd.toNat (.bool true) = seenL (l ++ [m]) := by
 unfold seenL
 rcases (by omega : m.nd = 0 ∨ m.nd = 1 ∨ m.nd = 2 ∨ m.nd = 3) with h | h | h | h <;> rw [h] <;> simp [any_append, h]
def Cfg.ms4 (x : Cfg) : List Mem := [x.f0, x.f1, x.f2, x.f3]
def chOf (x : Cfg) : Ch := ⟨x.ep, x.ms4.take x.n.toNat, if x.jo = true then some x.le else none⟩
instance (c : Ch) : Decidable (ChOk c) := decidable_of_iff (1 ≤ c.ep ∧ c.ep ≤ 1099511627776 ∧ 1 ≤ c.ms.length ∧ (c.all.map (·.nd)).Pairwise (· ≠ ·) ∧ ∀ m ∈ c.all, 0 ≤ m.nd ∧ m.nd < 4 ∧ 1 ≤ m.sn ∧ m.sn ≤ c.ep)
 ⟨fun ⟨a, b, c, d, e⟩ => ⟨a, b, c, d, e⟩, fun ⟨a, b, c, d, e⟩ => ⟨a, b, c, d, e⟩⟩
abbrev RightC (x : Cfg) : Prop := (1 ≤ x.n ∧ x.n ≤ 4) ∧ (chOf x).cfg = x ∧ ChOk (chOf x)
theorem chOf_cfg {c : Ch} (h : c.ms.length ≤ 4) : chOf c.cfg = c := by
 obtain ⟨ep, ms, ln⟩ := c
 simp only [] at h
 have hl : (if (ln.isSome) = true then some (ln.getD Mem.z) else none) = ln := by cases ln <;> rfl
 have h2 : (if (Ch.cfg ⟨ep, ms, ln⟩).jo = true then some (Ch.cfg ⟨ep, ms, ln⟩).le else none) = ln := hl
 unfold chOf
 rw [h2]
 match ms, h with
 | [], _ => rfl
 | [_], _ => rfl
 | [_, _], _ => rfl
 | [_, _, _], _ => rfl
 | [_, _, _, _], _ => rfl
theorem rightC_of {c : Ch} (ok : ChOk c) : RightC c.cfg := by
 have h4 := ok.l4
 have h1 := ok.l1
 have e := chOf_cfg (c := c) (by omega)
 exact ⟨⟨by show (1 : Int) ≤ (c.ms.length : Int); omega, by show (c.ms.length : Int) ≤ 4; omega⟩, by rw [e], by rw [e]; exact ok⟩
theorem rest_rs (x : Cfg) (b : Nat) {k : Nat} (hk : k ≤ 4) : Rs (x.ms4.drop k) (.slice (some (arAt b 2 2 4 k)) (4 - k) (4 - k)) (CfBk b x) := by
 rcases (by omega : k = 0 ∨ k = 1 ∨ k = 2 ∨ k = 3 ∨ k = 4) with rfl | rfl | rfl | rfl | rfl
 ·exact Rs.part (pre := x.enc.take 2) (post := x.enc.drop 10) (xs := x.ms4) rfl rfl (Nat.le_refl _)
 ·exact Rs.part (pre := x.enc.take 4) (post := x.enc.drop 10) (xs := x.ms4.drop 1) rfl rfl (Nat.le_refl _)
 ·exact Rs.part (pre := x.enc.take 6) (post := x.enc.drop 10) (xs := x.ms4.drop 2) rfl rfl (Nat.le_refl _)
 ·exact Rs.part (pre := x.enc.take 8) (post := x.enc.drop 10) (xs := x.ms4.drop 3) rfl rfl (Nat.le_refl _)
 ·exact Rs.none _ rfl
theorem cfg_rest {x : Cfg} {k : Nat} (hk : x.n = (k : Int)) (hk4 : k ≤ 4) (h : (chOf x).cfg = x) : ∀ m ∈ x.ms4.drop k, m = Mem.z := by
 obtain ⟨ep, n, f0, f1, f2, f3, jo, le⟩ := x
 simp only [] at hk
 subst hk
 rcases (by omega : k = 0 ∨ k = 1 ∨ k = 2 ∨ k = 3 ∨ k = 4) with rfl | rfl | rfl | rfl | rfl <;> simp [chOf, Ch.cfg, Cfg.ms4] at h ⊢ <;> grind
theorem cfg_learn {x : Cfg} (h : (chOf x).cfg = x) (hj : x.jo = false) : x.le = Mem.z := by
 have e : (chOf x).cfg.le = (if x.jo = true then some x.le else none).getD Mem.z := rfl
 rw [h, hj] at e
 exact e
theorem cfg_back {x : Cfg} {k : Nat} (hk : x.n = (k : Int)) (hk4 : k ≤ 4) (h1 : ∀ m ∈ x.ms4.drop k, m = Mem.z) (h2 : x.jo = false → x.le = Mem.z) : (chOf x).cfg = x := by
 obtain ⟨ep, n, f0, f1, f2, f3, jo, le⟩ := x
 simp only [] at hk h2
 subst hk
 rcases (by omega : k = 0 ∨ k = 1 ∨ k = 2 ∨ k = 3 ∨ k = 4) with rfl | rfl | rfl | rfl | rfl <;> cases jo <;> simp [chOf, Ch.cfg, Cfg.ms4] at h1 h2 ⊢ <;> simp [h1, h2]
def MemsOk (c : Ch) (k : Nat) : Prop := ∀ (i : Nat) (m : Mem), i < k → c.all[i]? = some m → (0 ≤ m.nd ∧ m.nd < 4 ∧ 1 ≤ m.sn ∧ m.sn ≤ c.ep) ∧ ∀ (j : Nat) (m' : Mem), j < i → c.all[j]? = some m' → m'.nd ≠ m.nd
theorem MemsOk.all {c : Ch} (h : MemsOk c c.all.length) (e1 : 1 ≤ c.ep) (e2 : c.ep ≤ 1099511627776) (l1 : 1 ≤ c.ms.length) : ChOk c := by
 refine ⟨e1, e2, l1, ?_, fun m hm => ?_⟩
 ·rw [pairwise_iff_getElem]
  intro i j hi hj hij
  rw [length_map] at hi hj
  rw [getElem_map, getElem_map]
  exact (h j _ hj (List.getElem?_eq_getElem hj)).2 i _ hij (List.getElem?_eq_getElem hi)
 ·obtain ⟨i, hi⟩ := mem_iff_getElem?.1 hm
  exact (h i m (List.getElem?_eq_some_iff.1 hi).1 hi).1
theorem ChOk.mems {c : Ch} (ok : ChOk c) (k : Nat) : MemsOk c k := fun i m _ hi => ⟨ok.rg m (mem_of_getElem? hi), fun j m' hj hm' => by
 have hp := ok.up
 rw [pairwise_iff_getElem] at hp
 obtain ⟨a1, a2⟩ := List.getElem?_eq_some_iff.1 hi
 obtain ⟨b1, b2⟩ := List.getElem?_eq_some_iff.1 hm'
 have := hp j i (by rw [length_map]; exact b1) (by rw [length_map]; exact a1) hj
 rw [getElem_map, getElem_map, a2, b2] at this
 exact this⟩
theorem seen_any {c : Ch} {k : Nat} {m : Mem} (hk : c.all[k]? = some m) : ((c.all.take k).any fun x => x.nd == m.nd) = false ↔ ∀ (j : Nat) (m' : Mem), j < k → c.all[j]? = some m' → m'.nd ≠ m.nd := by
 rw [any_eq_false]
 constructor
 ·intro h j m' hj hm'
  have := h m' (mem_iff_getElem?.2 ⟨j, by rw [List.getElem?_take, if_pos hj]; exact hm'⟩)
  simpa using this
 ·intro h x hx
  obtain ⟨j, hj⟩ := mem_iff_getElem?.1 hx
  have hlt := (List.getElem?_eq_some_iff.1 hj).1
  rw [length_take] at hlt
  rw [List.getElem?_take, if_pos (by omega)] at hj
  have := h j x (by omega) hj
  simpa using this
theorem mem_cells (m m' : Mem) : cellsEq [.i, .i] m.enc m'.enc = some (decide (m = m')) := by
 obtain ⟨a, b⟩ := m
 obtain ⟨a', b'⟩ := m'
 obtain ⟨r, e, i⟩ := cellsEq_iff (ks := [.i, .i]) (xs := Mem.enc ⟨a, b⟩) (ys := Mem.enc ⟨a', b'⟩) rfl rfl
 rw [e]
 congr 1
 have h2 : (Mem.enc ⟨a, b⟩ = Mem.enc ⟨a', b'⟩) ↔ (Mem.mk a b = Mem.mk a' b') := by
  constructor
  ·intro h; cases h; rfl
  ·intro h; cases h; rfl
 rw [h2] at i
 by_cases hb : Mem.mk a b = Mem.mk a' b'
 ·rw [decide_eq_true hb, i.2 hb]
 ·rw [decide_eq_false hb]
  cases r with
  | false => rfl
  | true => exact absurd (i.1 rfl) hb
set_option maxRecDepth 20000 in
theorem rightG_ct (x : Cfg) : Ct prog 84 [.agg (List.toArray x.enc)] [] (fun r H' => r = .bool (decide (RightC x)) ∧ H' = []) := by
 by_cases hbad : ¬ (1 ≤ x.ep ∧ x.ep ≤ 1099511627776 ∧ 1 ≤ x.n ∧ x.n ≤ 4)
 ·have hno : ¬ RightC x := fun ⟨h1, h2, h3⟩ => hbad ⟨h3.e1, h3.e2, h1⟩
  rw [decide_eq_false hno]
  clear hno
  refine Ct.mk' func84 rfl rfl rfl (fun g R => ?_)
  try simp only [ca]
  simp only [na]
  by_cases g1 : x.ep < 1
  ·repeat' (first | refine run ?_ | refine bx rfl (fun _ => ?_) | fail)
   exact D.fin1 [] _ rfl rfl ⟨rfl, rfl⟩
  by_cases g2 : 1099511627776 < x.ep
  ·repeat' (first | refine run ?_ | refine bx rfl (fun _ => ?_) | fail)
   exact D.fin1 [] _ rfl rfl ⟨rfl, rfl⟩
  by_cases g3 : x.n < 1
  ·repeat' (first | refine run ?_ | refine bx rfl (fun _ => ?_) | fail)
   exact D.fin1 [] _ rfl rfl ⟨rfl, rfl⟩
  have g4 : 4 < x.n := by omega
  repeat' (first | refine run ?_ | refine bx rfl (fun _ => ?_) | fail)
  exact D.fin1 [] _ rfl rfl ⟨rfl, rfl⟩
 obtain ⟨he1, he2, hn1, hn4⟩ := Classical.not_not.1 hbad
 clear hbad
 obtain ⟨k, hk⟩ : ∃ k : Nat, x.n = (k : Int) := ⟨x.n.toNat, by omega⟩
 have hk4 : k ≤ 4 := by omega
 have hk1 : 1 ≤ k := by omega
 have hrs := fun b => rest_rs x b hk4
 have hrl : (x.ms4.drop k).length = 4 - k := by rw [length_drop]; rfl
 have hzr := cfg_rest hk hk4
 have hbk := cfg_back hk hk4
 refine Ct.mk' func84 rfl rfl rfl (fun g R => ?_)
 try simp only [ca]
 simp only [na]
 repeat' (first | refine run ?_ | refine bx rfl (fun _ => ?_) | fail)
 rename_i b
 refine WX.arFrom (lo := k) rfl (by rw [← hk]; rfl) hk4 rfl ?_
 try refine run ?_
 have hz := hrs b
 refine W.loop (α := Nat) (fun j => j ≤ 4 - k ∧ ∀ (i : Nat) (m : Mem), i < j → (x.ms4.drop k)[i]? = some m → m = Mem.z) (fun j => [(1, .pointer (some ⟨b, 0, none⟩)), (29, .slice (some (arAt b 2 2 4 k)) (4 - k) (4 - k)), (30, .int .i64 (4 - k : Nat)), (31, .int .i64 (j : Int))]) (fun _ => [CfBk b x, R]) (fun j => 4 - k - j) 0 ⟨Nat.zero_le _, fun i m hi => absurd hi (Nat.not_lt_zero _)⟩ (by repeat (first | exact Fsub.nil | refine Fsub.cons rfl ?_)) (Hsub.of_picks inferInstance) ?_
 rintro j ⟨hj, hall⟩
 by_cases hlt : j < 4 - k
 ·obtain ⟨m, hm⟩ : ∃ m, (x.ms4.drop k)[j]? = some m := ⟨_, List.getElem?_eq_getElem (by omega)⟩
  have tm := mem_cells m Mem.z
  by_cases hmz : m = Mem.z
  ·rw [decide_eq_true hmz] at tm
   repeat' (first | refine run ?_ | refine al (fun _ => ?_) | refine WX.neqA rfl rfl tm rfl ?_ | fail)
   refine D.rd (j + 1) ⟨by omega, fun i p hi hp => ?_⟩ (by omega)
   rcases Nat.lt_or_ge i j with h | h
   ·exact hall i p h hp
   ·obtain rfl : i = j := by omega
    rw [hm] at hp
    cases hp
    exact hmz
  ·have hno : ¬ RightC x := fun ⟨_, h2, _⟩ => hmz (hzr h2 m (mem_of_getElem? hm))
   rw [decide_eq_false hmz] at tm
   repeat' (first | refine run ?_ | refine al (fun _ => ?_) | refine WX.neqA rfl rfl tm rfl ?_ | fail)
   exact D.fin1 [] _ rfl rfl ⟨by rw [decide_eq_false hno], rfl⟩
 obtain rfl : j = 4 - k := by omega
 have hrest : ∀ m ∈ x.ms4.drop k, m = Mem.z := fun m hm => by
  obtain ⟨i, hi⟩ := mem_iff_getElem?.1 hm
  have := (List.getElem?_eq_some_iff.1 hi).1
  exact hall i m (by omega) hi
 have tl := mem_cells x.le Mem.z
 by_cases hle : x.jo = false ∧ x.le ≠ Mem.z
 ·have hno : ¬ RightC x := fun ⟨_, h2, _⟩ => hle.2 (cfg_learn h2 hle.1)
  rw [decide_eq_false hle.2] at tl
  have hj := hle.1
  try refine run ?_
  rw [hj]
  repeat' (first | refine run ?_ | refine WX.neqA rfl rfl tl rfl ?_ | fail)
  exact D.fin1 [] _ rfl rfl ⟨by rw [decide_eq_false hno], rfl⟩
 have hcx := hbk hrest (fun h => Classical.byContradiction fun h' => hle ⟨h, h'⟩)
 obtain ⟨c, hc⟩ : ∃ c, chOf x = c := ⟨_, rfl⟩
 have hiff : RightC x ↔ ChOk c := by rw [← hc]; exact ⟨fun h => h.2.2, fun h => ⟨⟨hn1, hn4⟩, hcx, h⟩⟩
 have hd : decide (RightC x) = decide (ChOk c) := by rw [decide_eq_decide]; exact hiff
 rw [hd]
 rw [hc] at hcx
 subst hcx
 clear hd hiff hbk hrest hzr hc
 have hkl : c.ms.length = k := by have : (c.ms.length : Int) = (k : Int) := hk; omega
 have hmc := members4_ct (c := c) (by omega)
 have hal5 : c.all.length ≤ 5 := by
  unfold Ch.all; rw [length_append]; have : c.ln.toList.length ≤ 1 := (by cases c.ln <;> simp); omega
 cases hl : c.ln with
 | none =>
  have hj : c.cfg.jo = false := by show c.ln.isSome = false; rw [hl]; rfl
  have hle : c.cfg.le = Mem.z := by show c.ln.getD Mem.z = Mem.z; rw [hl]; rfl
  try refine run ?_
  rw [hj]
  try refine run ?_
  refine WX.neqA (b := true) (xs := Mem.enc c.cfg.le) rfl rfl (by rw [hle]; rfl) rfl ?_
  repeat' (first | refine run ?_ | refine al (fun _ => ?_) | fail)
  rename_i b5
  refine WX.call rfl hmc rfl ?_
  rintro _ _ ⟨hm, hsm, rfl⟩
  have hrm := hsm.rs
  obtain ⟨vp, vc, rfl⟩ := hrm.len
  simp only [ca, na]
  try refine run ?_
  refine W.flat (H' := [hm, [(b5, .cells (List.toArray (seenL (c.all.take 0))) 175 (0, 0))], CfBk b c.cfg, R]) rfl ?_
  refine W.loop (α := Nat) (fun q => q ≤ c.all.length ∧ MemsOk c q) (fun q => [(1, .pointer (some ⟨b, 0, none⟩)), (5, .pointer (some ⟨b5, 0, none⟩)), (49, .slice vp c.all.length vc), (50, .int .i64 (c.all.length : Nat)), (51, .int .i64 (q : Int))]) (fun q => [[(b5, .cells (List.toArray (seenL (c.all.take q))) 175 (0, 0))], CfBk b c.cfg, hm, R]) (fun q => c.all.length - q) 0 ⟨Nat.zero_le _, fun i m hi => absurd hi (Nat.not_lt_zero _)⟩ (by repeat (first | exact Fsub.nil | refine Fsub.cons rfl ?_)) (Hsub.of_picks inferInstance) ?_
  rintro q ⟨hq, hmo⟩
  by_cases hlt : q < c.all.length
  ·obtain ⟨m, hmk⟩ : ∃ m, c.all[q]? = some m := ⟨_, List.getElem?_eq_getElem hlt⟩
   have hsn := seen_any hmk
   have hwhy : ∀ ok : ChOk c, (0 ≤ m.nd ∧ m.nd < 4 ∧ 1 ≤ m.sn ∧ m.sn ≤ c.ep) ∧ ((c.all.take q).any fun x => x.nd == m.nd) = false := fun ok => by
    obtain ⟨w1, w2⟩ := ok.mems (q + 1) q m (by omega) hmk
    exact ⟨w1, hsn.2 w2⟩
   by_cases r0 : 0 ≤ m.nd ∧ m.nd < 4
   ·obtain ⟨r1, r2⟩ := r0
    have hsg := seen_get (l := c.all.take q) r1 r2
    have hsg2 : (seenL (c.all.take q))[0 + m.nd.toNat * 1]? = some (.bool ((c.all.take q).any fun x => x.nd == m.nd)) := by rw [Nat.zero_add, Nat.mul_one]; exact hsg
    have hsl : Nat.blt (0 + m.nd.toNat * 1) (seenL (c.all.take q)).length = true := Nat.ble_eq_true_of_le (by show 0 + m.nd.toNat * 1 + 1 ≤ 4; omega)
    cases hany : ((c.all.take q).any fun x => x.nd == m.nd) with
    | true =>
     have hno : ¬ ChOk c := fun ok => by have := (hwhy ok).2; rw [hany] at this; cases this
     rw [hany] at hsg2
     repeat' (first | refine run ?_ | refine al (fun _ => ?_) | fail)
     refine WX.callQ rfl (node_ct m.nd) rfl ?_
     rw [decide_eq_true (⟨r1, r2⟩ : 0 ≤ m.nd ∧ m.nd < 4)]
     try refine run ?_
     refine WX.load rfl hsg2 rfl ?_
     try refine run ?_
     exact D.fin1 [] _ rfl rfl ⟨by rw [decide_eq_false hno], rfl⟩
    | false =>
     rw [hany] at hsg2
     by_cases r5 : 1 ≤ m.sn ∧ m.sn ≤ c.cfg.ep
     ·obtain ⟨r3, r4⟩ := r5
      have hst : (seenL (c.all.take q)).set (0 + m.nd.toNat * 1) (.bool true) = seenL (c.all.take (q + 1)) := by rw [Nat.zero_add, Nat.mul_one, seen_set r1 r2, take_add_one, hmk]; rfl
      repeat' (first | refine run ?_ | refine al (fun _ => ?_) | fail)
      refine WX.callQ rfl (node_ct m.nd) rfl ?_
      rw [decide_eq_true (⟨r1, r2⟩ : 0 ≤ m.nd ∧ m.nd < 4)]
      try refine run ?_
      refine WX.load rfl hsg2 rfl ?_
      try refine run ?_
      refine WX.store rfl rfl rfl hsl ?_
      rw [hst]
      try refine run ?_
      refine D.rd (q + 1) ⟨by omega, fun i p hi hp => ?_⟩ (by omega)
      rcases Nat.lt_or_ge i q with h | h
      ·exact hmo i p h hp
      ·obtain rfl : i = q := by omega
       rw [hmk] at hp
       cases hp
       exact ⟨⟨r1, r2, r3, r4⟩, hsn.1 hany⟩
     ·have hno : ¬ ChOk c := fun ok => r5 ⟨(hwhy ok).1.2.2.1, (hwhy ok).1.2.2.2⟩
      by_cases r3 : m.sn < 1
      ·repeat' (first | refine run ?_ | refine al (fun _ => ?_) | fail)
       refine WX.callQ rfl (node_ct m.nd) rfl ?_
       rw [decide_eq_true (⟨r1, r2⟩ : 0 ≤ m.nd ∧ m.nd < 4)]
       try refine run ?_
       refine WX.load rfl hsg2 rfl ?_
       try refine run ?_
       exact D.fin1 [] _ rfl rfl ⟨by rw [decide_eq_false hno], rfl⟩
      ·have r4 : c.cfg.ep < m.sn := by omega
       repeat' (first | refine run ?_ | refine al (fun _ => ?_) | fail)
       refine WX.callQ rfl (node_ct m.nd) rfl ?_
       rw [decide_eq_true (⟨r1, r2⟩ : 0 ≤ m.nd ∧ m.nd < 4)]
       try refine run ?_
       refine WX.load rfl hsg2 rfl ?_
       try refine run ?_
       exact D.fin1 [] _ rfl rfl ⟨by rw [decide_eq_false hno], rfl⟩
   ·have hno : ¬ ChOk c := fun ok => r0 ⟨(hwhy ok).1.1, (hwhy ok).1.2.1⟩
    repeat' (first | refine run ?_ | refine al (fun _ => ?_) | fail)
    refine WX.callQ rfl (node_ct m.nd) rfl ?_
    rw [decide_eq_false r0]
    try refine run ?_
    exact D.fin1 [] _ rfl rfl ⟨by rw [decide_eq_false hno], rfl⟩
  ·obtain rfl : q = c.all.length := by omega
   have hyes : ChOk c := hmo.all he1 he2 (by omega)
   try refine run ?_
   exact D.fin1 [] _ rfl rfl ⟨by rw [decide_eq_true hyes], rfl⟩
 | some m =>
  have hj : c.cfg.jo = true := by show c.ln.isSome = true; rw [hl]; rfl
  try refine run ?_
  rw [hj]
  repeat' (first | refine run ?_ | refine al (fun _ => ?_) | fail)
  rename_i b5
  refine WX.call rfl hmc rfl ?_
  rintro _ _ ⟨hm, hsm, rfl⟩
  have hrm := hsm.rs
  obtain ⟨vp, vc, rfl⟩ := hrm.len
  simp only [ca, na]
  try refine run ?_
  refine W.flat (H' := [hm, [(b5, .cells (List.toArray (seenL (c.all.take 0))) 175 (0, 0))], CfBk b c.cfg, R]) rfl ?_
  refine W.loop (α := Nat) (fun q => q ≤ c.all.length ∧ MemsOk c q) (fun q => [(1, .pointer (some ⟨b, 0, none⟩)), (5, .pointer (some ⟨b5, 0, none⟩)), (49, .slice vp c.all.length vc), (50, .int .i64 (c.all.length : Nat)), (51, .int .i64 (q : Int))]) (fun q => [[(b5, .cells (List.toArray (seenL (c.all.take q))) 175 (0, 0))], CfBk b c.cfg, hm, R]) (fun q => c.all.length - q) 0 ⟨Nat.zero_le _, fun i m hi => absurd hi (Nat.not_lt_zero _)⟩ (by repeat (first | exact Fsub.nil | refine Fsub.cons rfl ?_)) (Hsub.of_picks inferInstance) ?_
  rintro q ⟨hq, hmo⟩
  by_cases hlt : q < c.all.length
  ·obtain ⟨m, hmk⟩ : ∃ m, c.all[q]? = some m := ⟨_, List.getElem?_eq_getElem hlt⟩
   have hsn := seen_any hmk
   have hwhy : ∀ ok : ChOk c, (0 ≤ m.nd ∧ m.nd < 4 ∧ 1 ≤ m.sn ∧ m.sn ≤ c.ep) ∧ ((c.all.take q).any fun x => x.nd == m.nd) = false := fun ok => by
    obtain ⟨w1, w2⟩ := ok.mems (q + 1) q m (by omega) hmk
    exact ⟨w1, hsn.2 w2⟩
   by_cases r0 : 0 ≤ m.nd ∧ m.nd < 4
   ·obtain ⟨r1, r2⟩ := r0
    have hsg := seen_get (l := c.all.take q) r1 r2
    have hsg2 : (seenL (c.all.take q))[0 + m.nd.toNat * 1]? = some (.bool ((c.all.take q).any fun x => x.nd == m.nd)) := by rw [Nat.zero_add, Nat.mul_one]; exact hsg
    have hsl : Nat.blt (0 + m.nd.toNat * 1) (seenL (c.all.take q)).length = true := Nat.ble_eq_true_of_le (by show 0 + m.nd.toNat * 1 + 1 ≤ 4; omega)
    cases hany : ((c.all.take q).any fun x => x.nd == m.nd) with
    | true =>
     have hno : ¬ ChOk c := fun ok => by have := (hwhy ok).2; rw [hany] at this; cases this
     rw [hany] at hsg2
     repeat' (first | refine run ?_ | refine al (fun _ => ?_) | fail)
     refine WX.callQ rfl (node_ct m.nd) rfl ?_
     rw [decide_eq_true (⟨r1, r2⟩ : 0 ≤ m.nd ∧ m.nd < 4)]
     try refine run ?_
     refine WX.load rfl hsg2 rfl ?_
     try refine run ?_
     exact D.fin1 [] _ rfl rfl ⟨by rw [decide_eq_false hno], rfl⟩
    | false =>
     rw [hany] at hsg2
     by_cases r5 : 1 ≤ m.sn ∧ m.sn ≤ c.cfg.ep
     ·obtain ⟨r3, r4⟩ := r5
      have hst : (seenL (c.all.take q)).set (0 + m.nd.toNat * 1) (.bool true) = seenL (c.all.take (q + 1)) := by rw [Nat.zero_add, Nat.mul_one, seen_set r1 r2, take_add_one, hmk]; rfl
      repeat' (first | refine run ?_ | refine al (fun _ => ?_) | fail)
      refine WX.callQ rfl (node_ct m.nd) rfl ?_
      rw [decide_eq_true (⟨r1, r2⟩ : 0 ≤ m.nd ∧ m.nd < 4)]
      try refine run ?_
      refine WX.load rfl hsg2 rfl ?_
      try refine run ?_
      refine WX.store rfl rfl rfl hsl ?_
      rw [hst]
      try refine run ?_
      refine D.rd (q + 1) ⟨by omega, fun i p hi hp => ?_⟩ (by omega)
      rcases Nat.lt_or_ge i q with h | h
      ·exact hmo i p h hp
      ·obtain rfl : i = q := by omega
       rw [hmk] at hp
       cases hp
       exact ⟨⟨r1, r2, r3, r4⟩, hsn.1 hany⟩
     ·have hno : ¬ ChOk c := fun ok => r5 ⟨(hwhy ok).1.2.2.1, (hwhy ok).1.2.2.2⟩
      by_cases r3 : m.sn < 1
      ·repeat' (first | refine run ?_ | refine al (fun _ => ?_) | fail)
       refine WX.callQ rfl (node_ct m.nd) rfl ?_
       rw [decide_eq_true (⟨r1, r2⟩ : 0 ≤ m.nd ∧ m.nd < 4)]
       try refine run ?_
       refine WX.load rfl hsg2 rfl ?_
       try refine run ?_
       exact D.fin1 [] _ rfl rfl ⟨by rw [decide_eq_false hno], rfl⟩
      ·have r4 : c.cfg.ep < m.sn := by omega
       repeat' (first | refine run ?_ | refine al (fun _ => ?_) | fail)
       refine WX.callQ rfl (node_ct m.nd) rfl ?_
       rw [decide_eq_true (⟨r1, r2⟩ : 0 ≤ m.nd ∧ m.nd < 4)]
       try refine run ?_
       refine WX.load rfl hsg2 rfl ?_
       try refine run ?_
       exact D.fin1 [] _ rfl rfl ⟨by rw [decide_eq_false hno], rfl⟩
   ·have hno : ¬ ChOk c := fun ok => r0 ⟨(hwhy ok).1.1, (hwhy ok).1.2.1⟩
    repeat' (first | refine run ?_ | refine al (fun _ => ?_) | fail)
    refine WX.callQ rfl (node_ct m.nd) rfl ?_
    rw [decide_eq_false r0]
    try refine run ?_
    exact D.fin1 [] _ rfl rfl ⟨by rw [decide_eq_false hno], rfl⟩
  ·obtain rfl : q = c.all.length := by omega
   have hyes : ChOk c := hmo.all he1 he2 (by omega)
   try refine run ?_
   exact D.fin1 [] _ rfl rfl ⟨by rw [decide_eq_true hyes], rfl⟩
theorem right_ct {c : Ch} (ok : ChOk c) : Ct prog 84 [.agg (List.toArray c.cfg.enc)] [] (fun r H' => r = .bool true ∧ H' = []) := by
 have h := rightG_ct c.cfg
 rw [decide_eq_true (rightC_of ok)] at h
 exact h
def chRes (o : Option Ch) : Value := .tuple (List.toArray [.agg (List.toArray (match o with | some c => c.cfg | none => Cfg.z).enc), .bool o.isSome])
def partM (k i : Nat) : Mem := if i < k then ⟨(i : Int), 1⟩ else Mem.z
def partC (n k : Nat) : Cfg := ⟨1, (n : Int), partM k 0, partM k 1, partM k 2, partM k 3, false, Mem.z⟩
theorem partC_all {n : Nat} (h1 : 1 ≤ n) (h4 : n ≤ 4) : partC n n = (firstCh n).cfg := by
 match n, h1, h4 with
 | 1, _, _ => rfl
 | 2, _, _ => rfl
 | 3, _, _ => rfl
 | 4, _, _ => rfl
theorem first_ct {n : Nat} (h1 : 1 ≤ n) (h4 : n ≤ 4) : Ct prog 43 [.int .i64 (n : Int)] [] (fun r H' => r = chRes (some (firstCh n)) ∧ H' = []) := by
 have hz : Cfg.enc (partC n 0) = Cfg.enc ⟨1, (n : Int), Mem.z, Mem.z, Mem.z, Mem.z, false, Mem.z⟩ := rfl
 refine Ct.mk' func43 rfl rfl rfl (fun g R => ?_)
 try simp only [ca]
 simp only [na]
 repeat' (first | refine run ?_ | refine al (fun _ => ?_) | fail)
 rename_i b2 b4
 refine W.flat (H' := [CfBk b4 (partC n 0), CfBk b2 Cfg.z, R]) rfl ?_
 refine W.loop (α := Nat) (fun k => k ≤ n) (fun k => [(2, .pointer (some ⟨b2, 0, none⟩)), (3, .bool false), (4, .pointer (some ⟨b4, 0, none⟩)), (15, .int .i64 (n : Int)), (16, .int .i64 (k : Int))]) (fun k => [CfBk b4 (partC n k), CfBk b2 Cfg.z, R]) (fun k => n - k) 0 (Nat.zero_le _) (by repeat (first | exact Fsub.nil | refine Fsub.cons rfl ?_)) (Hsub.of_picks inferInstance) ?_
 intro k hk
 by_cases hlt : k < n
 ·rcases (by omega : k = 0 ∨ k = 1 ∨ k = 2 ∨ k = 3) with rfl | rfl | rfl | rfl
  ·try refine run ?_
   refine D.flat (H' := [CfBk b4 (partC n (0 + 1)), CfBk b2 Cfg.z, R]) rfl ?_
   exact D.rd (0 + 1) (by omega) (by omega)
  ·try refine run ?_
   refine D.flat (H' := [CfBk b4 (partC n (1 + 1)), CfBk b2 Cfg.z, R]) rfl ?_
   exact D.rd (1 + 1) (by omega) (by omega)
  ·try refine run ?_
   refine D.flat (H' := [CfBk b4 (partC n (2 + 1)), CfBk b2 Cfg.z, R]) rfl ?_
   exact D.rd (2 + 1) (by omega) (by omega)
  ·try refine run ?_
   refine D.flat (H' := [CfBk b4 (partC n (3 + 1)), CfBk b2 Cfg.z, R]) rfl ?_
   exact D.rd (3 + 1) (by omega) (by omega)
 ·obtain rfl : k = n := by omega
  rw [partC_all h1 h4]
  try refine run ?_
  exact D.finR [] _ rfl (.cellA rfl rfl (.tmp rfl .nil)) rfl ⟨rfl, rfl⟩
abbrev NBk (nb : Nat) (k : Int) : Hp := [(nb, .cells (List.toArray [.int .i64 k]) 3 (0, 0))]
def woV (nb : Nat) : Value := .func (.func 130) (List.toArray []) (List.toArray [.pointer (some ⟨nb, 0, none⟩)])
def wiV (nb : Nat) : Value := .func (.func 134) (List.toArray []) (List.toArray [.pointer (some ⟨nb, 0, none⟩)])
theorem isWo_ct (nb : Nat) (k : Int) (m : Mem) : Ct prog 130 [.agg (Enc.enc m).toArray, .pointer (some ⟨nb, 0, none⟩)] [NBk nb k] (fun r H' => r = .bool (decide (m.nd = k)) ∧ H' = [NBk nb k]) := by
 refine Ct.mk' func130 rfl rfl rfl (fun g R => ?_)
 try simp only [ca]
 simp only [na]
 repeat' (first | refine run ?_ | refine bx rfl (fun _ => ?_) | fail)
 exact D.fin1 [NBk nb k] _ rfl rfl ⟨rfl, rfl⟩
theorem isWi_ct (nb : Nat) (k : Int) (m : Mem) : Ct prog 134 [.agg (Enc.enc m).toArray, .pointer (some ⟨nb, 0, none⟩)] [NBk nb k] (fun r H' => r = .bool (decide (m.nd = k)) ∧ H' = [NBk nb k]) := by
 refine Ct.mk' func134 rfl rfl rfl (fun g R => ?_)
 try simp only [ca]
 simp only [na]
 repeat' (first | refine run ?_ | refine bx rfl (fun _ => ?_) | fail)
 exact D.fin1 [NBk nb k] _ rfl rfl ⟨rfl, rfl⟩
def plc (ms : List Mem) (k : Int) : Int := match ms.findIdx? (fun p => decide (p.nd = k)) with | none => -1 | some i => (i : Int)
theorem plc_some {ms : List Mem} {k : Int} {j : Nat} {p : Mem} (hp : ms[j]? = some p) (hpk : p.nd = k) (hall : ∀ i p, i < j → ms[i]? = some p → ¬ p.nd = k) : plc ms k = (j : Int) := by
 have hf : ms.findIdx? (fun p => decide (p.nd = k)) = some j := by
  rw [List.findIdx?_eq_some_iff_getElem]
  obtain ⟨h1, h2⟩ := List.getElem?_eq_some_iff.1 hp
  refine ⟨h1, by rw [h2]; simpa using hpk, fun i hi => ?_⟩
  have := hall i _ hi (List.getElem?_eq_getElem (by omega))
  simpa using this
 unfold plc; rw [hf]
theorem plc_none {ms : List Mem} {k : Int} (hall : ∀ p ∈ ms, ¬ p.nd = k) : plc ms k = -1 := by
 have hf : ms.findIdx? (fun p => decide (p.nd = k)) = none := by
  rw [List.findIdx?_eq_none_iff]
  intro x hx
  simpa using hall x hx
 unfold plc; rw [hf]
theorem idxWo_ct {ps : List Mem} {v : Value} {h : Hp} (hs : Rs ps v h) (nb : Nat) (k : Int) (hl : ps.length ≤ 1000000) :
  Ct prog 129 [v, woV nb] [h, NBk nb k] (fun r H' => r = .int .i64 (plc ps k) ∧ H' = [h, NBk nb k]) := by
 refine Ct.mk' func129 rfl rfl rfl (fun g R => ?_)
 try simp only [ca]
 simp only [na]
 try refine run ?_
 refine W.loop (α := Nat) (fun j => j ≤ ps.length ∧ ∀ i p, i < j → ps[i]? = some p → ¬ p.nd = k) (fun j => [(0, v), (1, woV nb), (7, .int .i64 (ps.length : Int)), (8, .int .i64 (j : Int))]) (fun _ => [h, NBk nb k, R]) (fun j => ps.length - j) 0 ⟨Nat.zero_le _, fun i p hi => absurd hi (Nat.not_lt_zero _)⟩ (by repeat (first | exact Fsub.nil | refine Fsub.cons rfl ?_)) (Hsub.of_picks inferInstance) ?_
 rintro j ⟨hj, hall⟩
 by_cases hlt : j < ps.length
 ·obtain ⟨p, hp⟩ : ∃ p, ps[j]? = some p := ⟨_, List.getElem?_eq_getElem hlt⟩
  try refine run ?_
  refine WX.callV rfl rfl (isWo_ct nb k p) rfl ?_
  rintro _ _ ⟨rfl, rfl⟩
  by_cases hpk : p.nd = k
  ·simp only [ca, na]
   try refine run ?_
   exact D.fin1 [h, NBk nb k] _ rfl rfl ⟨by rw [plc_some hp hpk hall], rfl⟩
  ·simp only [ca, na]
   try refine run ?_
   refine D.rd (j + 1) ⟨by omega, fun i p' hi hp' => ?_⟩ (by omega)
   rcases Nat.lt_or_ge i j with h | h
   ·exact hall i p' h hp'
   ·obtain rfl : i = j := by omega
    rw [hp] at hp'
    cases hp'
    exact hpk
 ·have hno : ∀ p ∈ ps, ¬ p.nd = k := fun x hx => by
   obtain ⟨i, hi⟩ := mem_iff_getElem?.1 hx
   have hlt := (List.getElem?_eq_some_iff.1 hi).1
   exact hall i x (by omega) hi
  try refine run ?_
  exact D.fin1 [h, NBk nb k] _ rfl rfl ⟨by rw [plc_none hno], rfl⟩
theorem idxWi_ct {ps : List Mem} {v : Value} {h : Hp} (hs : Rs ps v h) (nb : Nat) (k : Int) (hl : ps.length ≤ 1000000) :
  Ct prog 129 [v, wiV nb] [h, NBk nb k] (fun r H' => r = .int .i64 (plc ps k) ∧ H' = [h, NBk nb k]) := by
 refine Ct.mk' func129 rfl rfl rfl (fun g R => ?_)
 try simp only [ca]
 simp only [na]
 try refine run ?_
 refine W.loop (α := Nat) (fun j => j ≤ ps.length ∧ ∀ i p, i < j → ps[i]? = some p → ¬ p.nd = k) (fun j => [(0, v), (1, wiV nb), (7, .int .i64 (ps.length : Int)), (8, .int .i64 (j : Int))]) (fun _ => [h, NBk nb k, R]) (fun j => ps.length - j) 0 ⟨Nat.zero_le _, fun i p hi => absurd hi (Nat.not_lt_zero _)⟩ (by repeat (first | exact Fsub.nil | refine Fsub.cons rfl ?_)) (Hsub.of_picks inferInstance) ?_
 rintro j ⟨hj, hall⟩
 by_cases hlt : j < ps.length
 ·obtain ⟨p, hp⟩ : ∃ p, ps[j]? = some p := ⟨_, List.getElem?_eq_getElem hlt⟩
  try refine run ?_
  refine WX.callV rfl rfl (isWi_ct nb k p) rfl ?_
  rintro _ _ ⟨rfl, rfl⟩
  by_cases hpk : p.nd = k
  ·simp only [ca, na]
   try refine run ?_
   exact D.fin1 [h, NBk nb k] _ rfl rfl ⟨by rw [plc_some hp hpk hall], rfl⟩
  ·simp only [ca, na]
   try refine run ?_
   refine D.rd (j + 1) ⟨by omega, fun i p' hi hp' => ?_⟩ (by omega)
   rcases Nat.lt_or_ge i j with h | h
   ·exact hall i p' h hp'
   ·obtain rfl : i = j := by omega
    rw [hp] at hp'
    cases hp'
    exact hpk
 ·have hno : ∀ p ∈ ps, ¬ p.nd = k := fun x hx => by
   obtain ⟨i, hi⟩ := mem_iff_getElem?.1 hx
   have hlt := (List.getElem?_eq_some_iff.1 hi).1
   exact hall i x (by omega) hi
  try refine run ?_
  exact D.fin1 [h, NBk nb k] _ rfl rfl ⟨by rw [plc_none hno], rfl⟩
theorem contains_ct {ms : List Mem} {v : Value} {h : Hp} (hs : Rs ms v h) (nb : Nat) (k : Int) (hl : ms.length ≤ 1000000) :
  Ct prog 133 [v, wiV nb] [h, NBk nb k] (fun r H' => r = .bool (decide (0 ≤ plc ms k)) ∧ H' = [h, NBk nb k]) := by
 refine Ct.mk' func133 rfl rfl rfl (fun g R => ?_)
 try simp only [ca]
 simp only [na]
 try refine run ?_
 refine WX.call rfl (idxWi_ct hs nb k hl) rfl ?_
 rintro _ _ ⟨rfl, rfl⟩
 simp only [ca, na]
 try refine run ?_
 exact D.fin1 [h, NBk nb k] _ rfl rfl ⟨rfl, rfl⟩
theorem plc_has {c : Ch} {k : Int} : decide (0 ≤ plc c.ms k) = c.has k := by
 by_cases h : ∃ p ∈ c.ms, p.nd = k
 ·rw [Ch.has_iff.2 h]
  unfold plc
  cases hf : c.ms.findIdx? (fun p => decide (p.nd = k)) with
  | none =>
   rw [List.findIdx?_eq_none_iff] at hf
   obtain ⟨p, hp, e⟩ := h
   have := hf p hp
   simp [e] at this
  | some i => simp
 ·have hn : c.has k = false := by
   cases hh : c.has k with
   | false => rfl
   | true => exact absurd (Ch.has_iff.1 hh) h
  rw [hn, plc_none (fun p hp e => h ⟨p, hp, e⟩)]
  rfl
theorem up_l4 {c : Ch} (ok : ChOk c) : c.ms.length ≤ 4 := by have := ok.l4; omega
def Ch.on (c : Ch) : Ch := ⟨c.ep + 1, c.ms, c.ln⟩
def Cfg.jl (c : Cfg) (v : Bool × Mem) : Cfg := ⟨c.ep, c.n, c.f0, c.f1, c.f2, c.f3, v.1, v.2⟩
theorem withF_ct {c : Ch} (ok : ChOk c) (he : c.ep ≠ 1099511627776) (b nb : Nat) (k : Int) :
  Ct prog 131 [.pointer (some ⟨b, 0, none⟩), .pointer (some ⟨nb, 0, none⟩)] [CfBk b c.on.cfg, NBk nb k]
   (fun r H' => ∃ c2, r = .bool (addL c k).isSome ∧ H' = [CfBk b c2, NBk nb k] ∧ ∀ c', addL c k = some c' → c2 = c'.cfg) := by
 have h4 := up_l4 ok
 have hrs := cfg_rs (c := c.on) h4 b
 have hcn := contains_ct hrs nb k (by show c.ms.length ≤ 1000000; omega)
 have hph : decide (0 ≤ plc c.on.ms k) = c.has k := plc_has
 rw [hph] at hcn
 refine Ct.mk' func131 rfl rfl rfl (fun g R => ?_)
 try simp only [ca]
 simp only [na]
 cases hl : c.ln with
 | some m =>
  have hj : c.on.cfg.jo = true := by show c.ln.isSome = true; rw [hl]; rfl
  have ha : addL c k = none := by unfold addL; rw [if_pos (.inr (.inl (by rw [hl]; rfl)))]
  try refine run ?_
  refine W.quiet Tryz.mix (by kernel_rfl) ?_
  try refine run ?_
  rw [hj]
  try refine run ?_
  rw [ha]
  exact D.fin1 [CfBk b c.on.cfg, NBk nb k] _ rfl rfl ⟨_, rfl, rfl, fun c' h => by cases h⟩
 | none =>
  have hj : c.on.cfg.jo = false := by show c.ln.isSome = false; rw [hl]; rfl
  try refine run ?_
  refine W.quiet Tryz.mix (by kernel_rfl) ?_
  try refine run ?_
  rw [hj]
  try refine run ?_
  refine WX.callQ rfl (node_ct k) rfl ?_
  by_cases hk : 0 ≤ k ∧ k < 4
  ·rw [decide_eq_true hk]
   try refine run ?_
   refine WX.arTo (hi := c.ms.length) rfl rfl h4 rfl ?_
   repeat' (first | refine run ?_ | (refine WX.makeFunc (first := []) rfl rfl rfl ?_) | fail)
   refine WX.callQ rfl hcn rfl ?_
   cases hh : c.has k with
   | true =>
    have ha : addL c k = none := by unfold addL; rw [if_pos (.inr (.inr (.inr (.inr hh))))]
    try refine run ?_
    rw [ha]
    exact D.fin1 [CfBk b c.on.cfg, NBk nb k] _ rfl rfl ⟨_, rfl, rfl, fun c' h => by cases h⟩
   | false =>
    have ha : addL c k = some ⟨c.ep + 1, c.ms, some ⟨k, c.ep + 1⟩⟩ := by
     unfold addL
     rw [if_neg]
     rintro (h | h | h | h | h)
     ·exact he h
     ·rw [hl] at h; cases h
     ·omega
     ·omega
     ·rw [hh] at h; cases h
    try refine run ?_
    have hc1 : ∀ (g : World) w, Cf g (fun v : Bool × Mem => [CfBk b (c.on.cfg.jl v), NBk nb k]) w → w.cell? ⟨nb, 0, none⟩ = some (.int .i64 k) := fun g w hw => by
     obtain ⟨v, h⟩ := hw
     have h1 := h.2.2 nb _ (mem_cons_of_mem _ (mem_cons_self ..))
     rw [cell_bk h1]; rfl
    have hc2 : ∀ (g : World) w, Cf g (fun v : Bool × Mem => [CfBk b (c.on.cfg.jl v), NBk nb k]) w → w.cell? ⟨b, 0 + 0, none⟩ = some (.int .i64 c.on.cfg.ep) := fun g w hw => by
     obtain ⟨v, h⟩ := hw
     have h1 := h.2.2 b _ (mem_cons_self ..)
     rw [cell_bk h1]; rfl
    refine W.flat (H' := [CfBk b (c.on.cfg.jl (false, c.on.cfg.le)), NBk nb k, R]) (by rw [← hj]; rfl) ?_
    refine W.mixC (List.replicate 10 true ++ [false, true, true, false]) (Cf g (fun v : Bool × Mem => [CfBk b (c.on.cfg.jl v), NBk nb k])) (fun w h => Cf.of (false, c.on.cfg.le) h) Tryz.mix (by kernel_rfl) ?_
    repeat' (first | refine run ?_ | refine WN.load rfl (hc1 g) rfl ?_ | refine WN.load rfl (hc2 g) rfl ?_ | refine WN.un0 (fun _ h => Cf.amb h) ?_ | refine WN.back0 ?_ | refine WN.an ?_ | fail)
    refine D.flat (H' := [CfBk b (c.on.cfg.jl (true, c.on.cfg.le)), NBk nb k, R]) rfl ?_
    refine WN.back (fun w h => Cf.of (true, c.on.cfg.le) h) ?_
    repeat' (first | refine run ?_ | refine WN.un0 (fun _ h => Cf.amb h) ?_ | refine WN.back0 ?_ | refine WN.an ?_ | fail)
    refine D.flat (H' := [CfBk b (c.on.cfg.jl (true, ⟨k, c.ep + 1⟩)), NBk nb k, R]) rfl ?_
    refine WN.back (fun w h => Cf.of (true, ⟨k, c.ep + 1⟩) h) ?_
    repeat' (first | refine run ?_ | refine WN.nil ?_ | fail)
    rw [ha]
    exact D.fin1 [CfBk b (c.on.cfg.jl (true, ⟨k, c.ep + 1⟩)), NBk nb k] _ rfl rfl ⟨_, rfl, rfl, fun c' h => by cases h; rfl⟩
  ·rw [decide_eq_false hk]
   have ha : addL c k = none := by unfold addL; rw [if_pos (by omega)]
   try refine run ?_
   rw [ha]
   exact D.fin1 [CfBk b c.on.cfg, NBk nb k] _ rfl rfl ⟨_, rfl, rfl, fun c' h => by cases h⟩
theorem growF_ct {c : Ch} (ok : ChOk c) (he : c.ep ≠ 1099511627776) (b : Nat) :
  Ct prog 136 [.pointer (some ⟨b, 0, none⟩)] [CfBk b c.on.cfg]
   (fun r H' => ∃ c2, r = .bool (growL c).isSome ∧ H' = [CfBk b c2] ∧ ∀ c', growL c = some c' → c2 = c'.cfg) := by
 have h4 := ok.l4
 have h1 := ok.l1
 refine Ct.mk' func136 rfl rfl rfl (fun g R => ?_)
 try simp only [ca]
 simp only [na]
 cases hl : c.ln with
 | none =>
  have hj : c.on.cfg.jo = false := by show c.ln.isSome = false; rw [hl]; rfl
  have ha : growL c = none := by unfold growL; rw [if_neg he, hl]
  try refine run ?_
  rw [hj]
  try refine run ?_
  rw [ha]
  exact D.fin1 [CfBk b c.on.cfg] _ rfl rfl ⟨_, rfl, rfl, fun c' h => by cases h⟩
 | some m =>
  have ha : growL c = some ⟨c.ep + 1, c.ms ++ [m], none⟩ := by unfold growL; rw [if_neg he, hl]
  rw [ha]
  rw [hl] at h4
  simp only [Option.toList, length_cons, length_nil] at h4
  obtain ⟨ep, ms, ln⟩ := c
  simp only [] at hl h4 h1
  subst hl
  match ms, h1, h4 with
  | [a], _, _ =>
   have hnn : (Ch.on ⟨ep, [a], some m⟩).cfg.n = 1 := rfl
   try refine run ?_
   refine W.mixN 8 (List.replicate 12 true) [CfBk b (Ch.on ⟨ep, [a], some m⟩).cfg] Tryz.mix (by kernel_rfl) ?_
   try refine run ?_
   refine D.flat (H' := [CfBk b (Ch.cfg ⟨ep + 1, [a, m], none⟩), R]) rfl ?_
   exact D.fin1 [CfBk b (Ch.cfg ⟨ep + 1, [a, m], none⟩)] _ rfl rfl ⟨_, rfl, rfl, fun c' h => by cases h; rfl⟩
  | [a, a2], _, _ =>
   have hnn : (Ch.on ⟨ep, [a, a2], some m⟩).cfg.n = 2 := rfl
   try refine run ?_
   refine W.mixN 8 (List.replicate 12 true) [CfBk b (Ch.on ⟨ep, [a, a2], some m⟩).cfg] Tryz.mix (by kernel_rfl) ?_
   try refine run ?_
   refine D.flat (H' := [CfBk b (Ch.cfg ⟨ep + 1, [a, a2, m], none⟩), R]) rfl ?_
   exact D.fin1 [CfBk b (Ch.cfg ⟨ep + 1, [a, a2, m], none⟩)] _ rfl rfl ⟨_, rfl, rfl, fun c' h => by cases h; rfl⟩
  | [a, a2, a3], _, _ =>
   have hnn : (Ch.on ⟨ep, [a, a2, a3], some m⟩).cfg.n = 3 := rfl
   try refine run ?_
   refine W.mixN 8 (List.replicate 12 true) [CfBk b (Ch.on ⟨ep, [a, a2, a3], some m⟩).cfg] Tryz.mix (by kernel_rfl) ?_
   try refine run ?_
   refine D.flat (H' := [CfBk b (Ch.cfg ⟨ep + 1, [a, a2, a3, m], none⟩), R]) rfl ?_
   exact D.fin1 [CfBk b (Ch.cfg ⟨ep + 1, [a, a2, a3, m], none⟩)] _ rfl rfl ⟨_, rfl, rfl, fun c' h => by cases h; rfl⟩
theorem up_ms {c : Ch} (ok : ChOk c) : (c.ms.map (·.nd)).Pairwise (· ≠ ·) := List.Pairwise.sublist ((sublist_append_left c.ms c.ln.toList).map (·.nd)) ok.up
theorem at_node {ms : List Mem} {k : Int} (hu : (ms.map (·.nd)).Pairwise (· ≠ ·)) {pre post : List Mem} {p : Mem} (e : ms = pre ++ p :: post) (hk : p.nd = k) :
  plc ms k = (pre.length : Int) ∧ ms.filter (fun m => m.nd != k) = pre ++ post := by
 subst e
 rw [map_append, map_cons, pairwise_append, pairwise_cons] at hu
 obtain ⟨_, ⟨h1, _⟩, h2⟩ := hu
 have hpre : ∀ x ∈ pre, x.nd ≠ k := fun x hx => by rw [← hk]; exact h2 x.nd (mem_map.2 ⟨x, hx, rfl⟩) p.nd (mem_cons_self ..)
 have hpost : ∀ x ∈ post, x.nd ≠ k := fun x hx => by rw [← hk]; exact fun h => h1 x.nd (mem_map.2 ⟨x, hx, rfl⟩) h.symm
 constructor
 ·refine plc_some (p := p) (by rw [List.getElem?_append_right (Nat.le_refl _), Nat.sub_self]; rfl) hk fun i q hi hq => ?_
  rw [List.getElem?_append_left hi] at hq
  exact hpre q (mem_of_getElem? hq)
 ·rw [filter_append, filter_cons, if_neg (by simp [hk]), filter_eq_self.2 (fun x hx => by simpa using hpre x hx), filter_eq_self.2 (fun x hx => by simpa using hpost x hx)]
theorem shapes {pre post : List Mem} (h : pre.length + (post.length + 1) ≤ 4) (h1 : ¬ pre.length + (post.length + 1) = 1) :
  (pre = [] ∧ ∃ x, post = [x]) ∨ (pre = [] ∧ ∃ x y, post = [x, y]) ∨ (pre = [] ∧ ∃ x y z, post = [x, y, z]) ∨ (∃ x, pre = [x] ∧ post = []) ∨ (∃ x y, pre = [x] ∧ post = [y]) ∨ (∃ x y z, pre = [x] ∧ post = [y, z]) ∨
  (∃ x y, pre = [x, y] ∧ post = []) ∨ (∃ x y z, pre = [x, y] ∧ post = [z]) ∨ (∃ x y z, pre = [x, y, z] ∧ post = []) := by
 rcases pre with _ | ⟨a, _ | ⟨b, _ | ⟨c, _ | ⟨d, t⟩⟩⟩⟩ <;> rcases post with _ | ⟨e, _ | ⟨f, _ | ⟨g, _ | ⟨i, u⟩⟩⟩⟩ <;> first | (exfalso; simp at h h1; done) | (exfalso; simp at h h1; omega) | (exfalso; simp at h; omega) | simp
def Cfg.wn (c : Cfg) (n : Int) : Cfg := ⟨c.ep, n, c.f0, c.f1, c.f2, c.f3, c.jo, c.le⟩
set_option maxHeartbeats 1000000 in
theorem dropF_ct {c : Ch} (ok : ChOk c) (he : c.ep ≠ 1099511627776) (b nb : Nat) (k : Int) :
  Ct prog 128 [.pointer (some ⟨b, 0, none⟩), .pointer (some ⟨nb, 0, none⟩)] [CfBk b c.on.cfg, NBk nb k]
   (fun r H' => ∃ c2, r = .bool (dropL c k).isSome ∧ H' = [CfBk b c2, NBk nb k] ∧ ∀ c', dropL c k = some c' → c2 = c'.cfg) := by
 have h4 := up_l4 ok
 have h1 := ok.l1
 have hup := up_ms ok
 have hrs := cfg_rs (c := c.on) h4 b
 have hix := idxWo_ct hrs nb k (by show c.ms.length ≤ 1000000; omega)
 refine Ct.mk' func128 rfl rfl rfl (fun g R => ?_)
 try simp only [ca]
 simp only [na]
 cases hl : c.ln with
 | some m =>
  have hj : c.on.cfg.jo = true := by show c.ln.isSome = true; rw [hl]; rfl
  have hle : c.on.cfg.le.nd = m.nd := by show (c.ln.getD Mem.z).nd = m.nd; rw [hl]; rfl
  by_cases hmk : m.nd = k
  ·have ha : dropL c k = some ⟨c.ep + 1, c.ms, none⟩ := by unfold dropL; rw [if_neg he, if_pos (by rw [hl]; simp [hmk])]
   try refine run ?_
   refine W.quiet Tryz.mix (by kernel_rfl) ?_
   try refine run ?_
   rw [hj]
   try refine run ?_
   refine D.flat (H' := [CfBk b (Ch.cfg ⟨c.ep + 1, c.ms, none⟩), NBk nb k, R]) rfl ?_
   rw [ha]
   exact D.fin1 [CfBk b (Ch.cfg ⟨c.ep + 1, c.ms, none⟩), NBk nb k] _ rfl rfl ⟨_, rfl, rfl, fun c' h => by cases h; rfl⟩
  ·have hnl : c.ln.any (fun m => m.nd == k) = false := by rw [hl]; simp [hmk]
   try refine run ?_
   refine W.quiet Tryz.mix (by kernel_rfl) ?_
   try refine run ?_
   rw [hj]
   try refine run ?_
   refine W.quiet Tryz.mix (by kernel_rfl) ?_
   try refine run ?_
   refine WX.arTo (hi := c.ms.length) rfl rfl h4 rfl ?_
   repeat' (first | (refine WX.makeFunc (first := []) rfl rfl rfl ?_) | fail)
   refine WX.callQ rfl hix rfl ?_
   by_cases hh : c.has k = true
   ·obtain ⟨p, hp, hpk⟩ := Ch.has_iff.1 hh
    obtain ⟨pre, post, e⟩ := append_of_mem hp
    obtain ⟨g1, g2⟩ := at_node hup e hpk
    have g1 : plc c.on.ms k = (pre.length : Int) := g1
    by_cases hone : c.ms.length = 1
    ·have ha : dropL c k = none := by unfold dropL; rw [if_neg he, if_neg (by rw [hnl]; decide), if_pos (.inr hone)]
     have hnn : c.on.cfg.n = 1 := by show (c.ms.length : Int) = 1; omega
     rw [g1]
     try refine run ?_
     rw [ha]
     exact D.fin1 [CfBk b c.on.cfg, NBk nb k] _ rfl rfl ⟨_, rfl, rfl, fun c' h => by cases h⟩
    ·have ha : dropL c k = some ⟨c.ep + 1, pre ++ post, c.ln⟩ := by
      unfold dropL
      rw [if_neg he, if_neg (by rw [hnl]; decide), if_neg (fun h => h.elim (fun h => by rw [hh] at h; cases h) hone), g2]
     rw [ha]
     obtain ⟨ep, ms, ln⟩ := c
     simp only [] at e hone h4
     subst e
     rw [length_append, length_cons] at h4 hone
     rcases shapes h4 hone with ⟨rfl, x, rfl⟩ | ⟨rfl, x, y, rfl⟩ | ⟨rfl, x, y, z, rfl⟩ | ⟨x, rfl, rfl⟩ | ⟨x, y, rfl, rfl⟩ | ⟨x, y, z, rfl, rfl⟩ | ⟨x, y, rfl, rfl⟩ | ⟨x, y, z, rfl, rfl⟩ | ⟨x, y, z, rfl, rfl⟩
     ·have gq : plc (Ch.on ⟨ep, [] ++ p :: [x], ln⟩).ms k = 0 := g1
      have hnn : (Ch.on ⟨ep, [] ++ p :: [x], ln⟩).cfg.n = 2 := rfl
      rw [gq]
      try refine run ?_
      refine W.mixN 8 (List.replicate 15 true) [CfBk b (Ch.on ⟨ep, [] ++ p :: [x], ln⟩).cfg] Tryz.mix (by kernel_rfl) ?_
      try refine run ?_
      refine WX.arFrom (len := 4) (lo := 0) rfl rfl (by decide) rfl ?_
      try refine run ?_
      refine WX.arCut (len := 4) (lo := 0 + 1) (hi := 2) rfl rfl rfl (by decide) (by decide) rfl ?_
      try refine run ?_
      refine WX.copyIn rfl rfl rfl rfl rfl rfl rfl ?_
      try refine run ?_
      have hn2 : (Cfg.wn (Ch.cfg ⟨ep + 1, [] ++ [x] ++ [x], ln⟩) 1).n = 1 := rfl
      refine W.flat (H' := [CfBk b (Cfg.wn (Ch.cfg ⟨ep + 1, [] ++ [x] ++ [x], ln⟩) 1), NBk nb k, R]) rfl ?_
      refine W.mixN 8 (List.replicate 9 true) [CfBk b (Cfg.wn (Ch.cfg ⟨ep + 1, [] ++ [x] ++ [x], ln⟩) 1)] Tryz.mix (by kernel_rfl) ?_
      try refine run ?_
      refine D.flat (H' := [CfBk b (Ch.cfg ⟨ep + 1, [] ++ [x], ln⟩), NBk nb k, R]) rfl ?_
      exact D.fin1 [CfBk b (Ch.cfg ⟨ep + 1, [] ++ [x], ln⟩), NBk nb k] _ rfl rfl ⟨_, rfl, rfl, fun c' h => by cases h; rfl⟩
     ·have gq : plc (Ch.on ⟨ep, [] ++ p :: [x, y], ln⟩).ms k = 0 := g1
      have hnn : (Ch.on ⟨ep, [] ++ p :: [x, y], ln⟩).cfg.n = 3 := rfl
      rw [gq]
      try refine run ?_
      refine W.mixN 8 (List.replicate 15 true) [CfBk b (Ch.on ⟨ep, [] ++ p :: [x, y], ln⟩).cfg] Tryz.mix (by kernel_rfl) ?_
      try refine run ?_
      refine WX.arFrom (len := 4) (lo := 0) rfl rfl (by decide) rfl ?_
      try refine run ?_
      refine WX.arCut (len := 4) (lo := 0 + 1) (hi := 3) rfl rfl rfl (by decide) (by decide) rfl ?_
      try refine run ?_
      refine WX.copyIn rfl rfl rfl rfl rfl rfl rfl ?_
      try refine run ?_
      have hn2 : (Cfg.wn (Ch.cfg ⟨ep + 1, [] ++ [x, y] ++ [y], ln⟩) 2).n = 2 := rfl
      refine W.flat (H' := [CfBk b (Cfg.wn (Ch.cfg ⟨ep + 1, [] ++ [x, y] ++ [y], ln⟩) 2), NBk nb k, R]) rfl ?_
      refine W.mixN 8 (List.replicate 9 true) [CfBk b (Cfg.wn (Ch.cfg ⟨ep + 1, [] ++ [x, y] ++ [y], ln⟩) 2)] Tryz.mix (by kernel_rfl) ?_
      try refine run ?_
      refine D.flat (H' := [CfBk b (Ch.cfg ⟨ep + 1, [] ++ [x, y], ln⟩), NBk nb k, R]) rfl ?_
      exact D.fin1 [CfBk b (Ch.cfg ⟨ep + 1, [] ++ [x, y], ln⟩), NBk nb k] _ rfl rfl ⟨_, rfl, rfl, fun c' h => by cases h; rfl⟩
     ·have gq : plc (Ch.on ⟨ep, [] ++ p :: [x, y, z], ln⟩).ms k = 0 := g1
      have hnn : (Ch.on ⟨ep, [] ++ p :: [x, y, z], ln⟩).cfg.n = 4 := rfl
      rw [gq]
      try refine run ?_
      refine W.mixN 8 (List.replicate 15 true) [CfBk b (Ch.on ⟨ep, [] ++ p :: [x, y, z], ln⟩).cfg] Tryz.mix (by kernel_rfl) ?_
      try refine run ?_
      refine WX.arFrom (len := 4) (lo := 0) rfl rfl (by decide) rfl ?_
      try refine run ?_
      refine WX.arCut (len := 4) (lo := 0 + 1) (hi := 4) rfl rfl rfl (by decide) (by decide) rfl ?_
      try refine run ?_
      refine WX.copyIn rfl rfl rfl rfl rfl rfl rfl ?_
      try refine run ?_
      have hn2 : (Cfg.wn (Ch.cfg ⟨ep + 1, [] ++ [x, y, z] ++ [z], ln⟩) 3).n = 3 := rfl
      refine W.flat (H' := [CfBk b (Cfg.wn (Ch.cfg ⟨ep + 1, [] ++ [x, y, z] ++ [z], ln⟩) 3), NBk nb k, R]) rfl ?_
      refine W.mixN 8 (List.replicate 9 true) [CfBk b (Cfg.wn (Ch.cfg ⟨ep + 1, [] ++ [x, y, z] ++ [z], ln⟩) 3)] Tryz.mix (by kernel_rfl) ?_
      try refine run ?_
      refine D.flat (H' := [CfBk b (Ch.cfg ⟨ep + 1, [] ++ [x, y, z], ln⟩), NBk nb k, R]) rfl ?_
      exact D.fin1 [CfBk b (Ch.cfg ⟨ep + 1, [] ++ [x, y, z], ln⟩), NBk nb k] _ rfl rfl ⟨_, rfl, rfl, fun c' h => by cases h; rfl⟩
     ·have gq : plc (Ch.on ⟨ep, [x] ++ p :: [], ln⟩).ms k = 1 := g1
      have hnn : (Ch.on ⟨ep, [x] ++ p :: [], ln⟩).cfg.n = 2 := rfl
      rw [gq]
      try refine run ?_
      refine W.mixN 8 (List.replicate 15 true) [CfBk b (Ch.on ⟨ep, [x] ++ p :: [], ln⟩).cfg] Tryz.mix (by kernel_rfl) ?_
      try refine run ?_
      refine WX.arFrom (len := 4) (lo := 1) rfl rfl (by decide) rfl ?_
      try refine run ?_
      refine WX.arCut (len := 4) (lo := 1 + 1) (hi := 2) rfl rfl rfl (by decide) (by decide) rfl ?_
      try refine run ?_
      refine WX.copyIn rfl rfl rfl rfl rfl rfl rfl ?_
      try refine run ?_
      have hn2 : (Cfg.wn (Ch.cfg ⟨ep + 1, [x] ++ [] ++ [p], ln⟩) 1).n = 1 := rfl
      refine W.flat (H' := [CfBk b (Cfg.wn (Ch.cfg ⟨ep + 1, [x] ++ [] ++ [p], ln⟩) 1), NBk nb k, R]) rfl ?_
      refine W.mixN 8 (List.replicate 9 true) [CfBk b (Cfg.wn (Ch.cfg ⟨ep + 1, [x] ++ [] ++ [p], ln⟩) 1)] Tryz.mix (by kernel_rfl) ?_
      try refine run ?_
      refine D.flat (H' := [CfBk b (Ch.cfg ⟨ep + 1, [x] ++ [], ln⟩), NBk nb k, R]) rfl ?_
      exact D.fin1 [CfBk b (Ch.cfg ⟨ep + 1, [x] ++ [], ln⟩), NBk nb k] _ rfl rfl ⟨_, rfl, rfl, fun c' h => by cases h; rfl⟩
     ·have gq : plc (Ch.on ⟨ep, [x] ++ p :: [y], ln⟩).ms k = 1 := g1
      have hnn : (Ch.on ⟨ep, [x] ++ p :: [y], ln⟩).cfg.n = 3 := rfl
      rw [gq]
      try refine run ?_
      refine W.mixN 8 (List.replicate 15 true) [CfBk b (Ch.on ⟨ep, [x] ++ p :: [y], ln⟩).cfg] Tryz.mix (by kernel_rfl) ?_
      try refine run ?_
      refine WX.arFrom (len := 4) (lo := 1) rfl rfl (by decide) rfl ?_
      try refine run ?_
      refine WX.arCut (len := 4) (lo := 1 + 1) (hi := 3) rfl rfl rfl (by decide) (by decide) rfl ?_
      try refine run ?_
      refine WX.copyIn rfl rfl rfl rfl rfl rfl rfl ?_
      try refine run ?_
      have hn2 : (Cfg.wn (Ch.cfg ⟨ep + 1, [x] ++ [y] ++ [y], ln⟩) 2).n = 2 := rfl
      refine W.flat (H' := [CfBk b (Cfg.wn (Ch.cfg ⟨ep + 1, [x] ++ [y] ++ [y], ln⟩) 2), NBk nb k, R]) rfl ?_
      refine W.mixN 8 (List.replicate 9 true) [CfBk b (Cfg.wn (Ch.cfg ⟨ep + 1, [x] ++ [y] ++ [y], ln⟩) 2)] Tryz.mix (by kernel_rfl) ?_
      try refine run ?_
      refine D.flat (H' := [CfBk b (Ch.cfg ⟨ep + 1, [x] ++ [y], ln⟩), NBk nb k, R]) rfl ?_
      exact D.fin1 [CfBk b (Ch.cfg ⟨ep + 1, [x] ++ [y], ln⟩), NBk nb k] _ rfl rfl ⟨_, rfl, rfl, fun c' h => by cases h; rfl⟩
     ·have gq : plc (Ch.on ⟨ep, [x] ++ p :: [y, z], ln⟩).ms k = 1 := g1
      have hnn : (Ch.on ⟨ep, [x] ++ p :: [y, z], ln⟩).cfg.n = 4 := rfl
      rw [gq]
      try refine run ?_
      refine W.mixN 8 (List.replicate 15 true) [CfBk b (Ch.on ⟨ep, [x] ++ p :: [y, z], ln⟩).cfg] Tryz.mix (by kernel_rfl) ?_
      try refine run ?_
      refine WX.arFrom (len := 4) (lo := 1) rfl rfl (by decide) rfl ?_
      try refine run ?_
      refine WX.arCut (len := 4) (lo := 1 + 1) (hi := 4) rfl rfl rfl (by decide) (by decide) rfl ?_
      try refine run ?_
      refine WX.copyIn rfl rfl rfl rfl rfl rfl rfl ?_
      try refine run ?_
      have hn2 : (Cfg.wn (Ch.cfg ⟨ep + 1, [x] ++ [y, z] ++ [z], ln⟩) 3).n = 3 := rfl
      refine W.flat (H' := [CfBk b (Cfg.wn (Ch.cfg ⟨ep + 1, [x] ++ [y, z] ++ [z], ln⟩) 3), NBk nb k, R]) rfl ?_
      refine W.mixN 8 (List.replicate 9 true) [CfBk b (Cfg.wn (Ch.cfg ⟨ep + 1, [x] ++ [y, z] ++ [z], ln⟩) 3)] Tryz.mix (by kernel_rfl) ?_
      try refine run ?_
      refine D.flat (H' := [CfBk b (Ch.cfg ⟨ep + 1, [x] ++ [y, z], ln⟩), NBk nb k, R]) rfl ?_
      exact D.fin1 [CfBk b (Ch.cfg ⟨ep + 1, [x] ++ [y, z], ln⟩), NBk nb k] _ rfl rfl ⟨_, rfl, rfl, fun c' h => by cases h; rfl⟩
     ·have gq : plc (Ch.on ⟨ep, [x, y] ++ p :: [], ln⟩).ms k = 2 := g1
      have hnn : (Ch.on ⟨ep, [x, y] ++ p :: [], ln⟩).cfg.n = 3 := rfl
      rw [gq]
      try refine run ?_
      refine W.mixN 8 (List.replicate 15 true) [CfBk b (Ch.on ⟨ep, [x, y] ++ p :: [], ln⟩).cfg] Tryz.mix (by kernel_rfl) ?_
      try refine run ?_
      refine WX.arFrom (len := 4) (lo := 2) rfl rfl (by decide) rfl ?_
      try refine run ?_
      refine WX.arCut (len := 4) (lo := 2 + 1) (hi := 3) rfl rfl rfl (by decide) (by decide) rfl ?_
      try refine run ?_
      refine WX.copyIn rfl rfl rfl rfl rfl rfl rfl ?_
      try refine run ?_
      have hn2 : (Cfg.wn (Ch.cfg ⟨ep + 1, [x, y] ++ [] ++ [p], ln⟩) 2).n = 2 := rfl
      refine W.flat (H' := [CfBk b (Cfg.wn (Ch.cfg ⟨ep + 1, [x, y] ++ [] ++ [p], ln⟩) 2), NBk nb k, R]) rfl ?_
      refine W.mixN 8 (List.replicate 9 true) [CfBk b (Cfg.wn (Ch.cfg ⟨ep + 1, [x, y] ++ [] ++ [p], ln⟩) 2)] Tryz.mix (by kernel_rfl) ?_
      try refine run ?_
      refine D.flat (H' := [CfBk b (Ch.cfg ⟨ep + 1, [x, y] ++ [], ln⟩), NBk nb k, R]) rfl ?_
      exact D.fin1 [CfBk b (Ch.cfg ⟨ep + 1, [x, y] ++ [], ln⟩), NBk nb k] _ rfl rfl ⟨_, rfl, rfl, fun c' h => by cases h; rfl⟩
     ·have gq : plc (Ch.on ⟨ep, [x, y] ++ p :: [z], ln⟩).ms k = 2 := g1
      have hnn : (Ch.on ⟨ep, [x, y] ++ p :: [z], ln⟩).cfg.n = 4 := rfl
      rw [gq]
      try refine run ?_
      refine W.mixN 8 (List.replicate 15 true) [CfBk b (Ch.on ⟨ep, [x, y] ++ p :: [z], ln⟩).cfg] Tryz.mix (by kernel_rfl) ?_
      try refine run ?_
      refine WX.arFrom (len := 4) (lo := 2) rfl rfl (by decide) rfl ?_
      try refine run ?_
      refine WX.arCut (len := 4) (lo := 2 + 1) (hi := 4) rfl rfl rfl (by decide) (by decide) rfl ?_
      try refine run ?_
      refine WX.copyIn rfl rfl rfl rfl rfl rfl rfl ?_
      try refine run ?_
      have hn2 : (Cfg.wn (Ch.cfg ⟨ep + 1, [x, y] ++ [z] ++ [z], ln⟩) 3).n = 3 := rfl
      refine W.flat (H' := [CfBk b (Cfg.wn (Ch.cfg ⟨ep + 1, [x, y] ++ [z] ++ [z], ln⟩) 3), NBk nb k, R]) rfl ?_
      refine W.mixN 8 (List.replicate 9 true) [CfBk b (Cfg.wn (Ch.cfg ⟨ep + 1, [x, y] ++ [z] ++ [z], ln⟩) 3)] Tryz.mix (by kernel_rfl) ?_
      try refine run ?_
      refine D.flat (H' := [CfBk b (Ch.cfg ⟨ep + 1, [x, y] ++ [z], ln⟩), NBk nb k, R]) rfl ?_
      exact D.fin1 [CfBk b (Ch.cfg ⟨ep + 1, [x, y] ++ [z], ln⟩), NBk nb k] _ rfl rfl ⟨_, rfl, rfl, fun c' h => by cases h; rfl⟩
     ·have gq : plc (Ch.on ⟨ep, [x, y, z] ++ p :: [], ln⟩).ms k = 3 := g1
      have hnn : (Ch.on ⟨ep, [x, y, z] ++ p :: [], ln⟩).cfg.n = 4 := rfl
      rw [gq]
      try refine run ?_
      refine W.mixN 8 (List.replicate 15 true) [CfBk b (Ch.on ⟨ep, [x, y, z] ++ p :: [], ln⟩).cfg] Tryz.mix (by kernel_rfl) ?_
      try refine run ?_
      refine WX.arFrom (len := 4) (lo := 3) rfl rfl (by decide) rfl ?_
      try refine run ?_
      refine WX.arCut (len := 4) (lo := 3 + 1) (hi := 4) rfl rfl rfl (by decide) (by decide) rfl ?_
      try refine run ?_
      refine WX.copyIn rfl rfl rfl rfl rfl rfl rfl ?_
      try refine run ?_
      have hn2 : (Cfg.wn (Ch.cfg ⟨ep + 1, [x, y, z] ++ [] ++ [p], ln⟩) 3).n = 3 := rfl
      refine W.flat (H' := [CfBk b (Cfg.wn (Ch.cfg ⟨ep + 1, [x, y, z] ++ [] ++ [p], ln⟩) 3), NBk nb k, R]) rfl ?_
      refine W.mixN 8 (List.replicate 9 true) [CfBk b (Cfg.wn (Ch.cfg ⟨ep + 1, [x, y, z] ++ [] ++ [p], ln⟩) 3)] Tryz.mix (by kernel_rfl) ?_
      try refine run ?_
      refine D.flat (H' := [CfBk b (Ch.cfg ⟨ep + 1, [x, y, z] ++ [], ln⟩), NBk nb k, R]) rfl ?_
      exact D.fin1 [CfBk b (Ch.cfg ⟨ep + 1, [x, y, z] ++ [], ln⟩), NBk nb k] _ rfl rfl ⟨_, rfl, rfl, fun c' h => by cases h; rfl⟩
   ·have hno : c.has k = false := by cases h : c.has k with | false => rfl | true => exact absurd h hh
    have ha : dropL c k = none := by unfold dropL; rw [if_neg he, if_neg (by rw [hnl]; decide), if_pos (.inl hno)]
    have g1 : plc c.on.ms k = -1 := plc_none fun q hq h => hh (Ch.has_iff.2 ⟨q, hq, h⟩)
    rw [g1]
    try refine run ?_
    rw [ha]
    exact D.fin1 [CfBk b c.on.cfg, NBk nb k] _ rfl rfl ⟨_, rfl, rfl, fun c' h => by cases h⟩
 | none =>
  have hj : c.on.cfg.jo = false := by show c.ln.isSome = false; rw [hl]; rfl
  have hnl : c.ln.any (fun m => m.nd == k) = false := by rw [hl]; rfl
  try refine run ?_
  refine W.quiet Tryz.mix (by kernel_rfl) ?_
  try refine run ?_
  rw [hj]
  try refine run ?_
  refine W.quiet Tryz.mix (by kernel_rfl) ?_
  try refine run ?_
  refine WX.arTo (hi := c.ms.length) rfl rfl h4 rfl ?_
  repeat' (first | (refine WX.makeFunc (first := []) rfl rfl rfl ?_) | fail)
  refine WX.callQ rfl hix rfl ?_
  by_cases hh : c.has k = true
  ·obtain ⟨p, hp, hpk⟩ := Ch.has_iff.1 hh
   obtain ⟨pre, post, e⟩ := append_of_mem hp
   obtain ⟨g1, g2⟩ := at_node hup e hpk
   have g1 : plc c.on.ms k = (pre.length : Int) := g1
   by_cases hone : c.ms.length = 1
   ·have ha : dropL c k = none := by unfold dropL; rw [if_neg he, if_neg (by rw [hnl]; decide), if_pos (.inr hone)]
    have hnn : c.on.cfg.n = 1 := by show (c.ms.length : Int) = 1; omega
    rw [g1]
    try refine run ?_
    rw [ha]
    exact D.fin1 [CfBk b c.on.cfg, NBk nb k] _ rfl rfl ⟨_, rfl, rfl, fun c' h => by cases h⟩
   ·have ha : dropL c k = some ⟨c.ep + 1, pre ++ post, c.ln⟩ := by
     unfold dropL
     rw [if_neg he, if_neg (by rw [hnl]; decide), if_neg (fun h => h.elim (fun h => by rw [hh] at h; cases h) hone), g2]
    rw [ha]
    obtain ⟨ep, ms, ln⟩ := c
    simp only [] at e hone h4
    subst e
    rw [length_append, length_cons] at h4 hone
    rcases shapes h4 hone with ⟨rfl, x, rfl⟩ | ⟨rfl, x, y, rfl⟩ | ⟨rfl, x, y, z, rfl⟩ | ⟨x, rfl, rfl⟩ | ⟨x, y, rfl, rfl⟩ | ⟨x, y, z, rfl, rfl⟩ | ⟨x, y, rfl, rfl⟩ | ⟨x, y, z, rfl, rfl⟩ | ⟨x, y, z, rfl, rfl⟩
    ·have gq : plc (Ch.on ⟨ep, [] ++ p :: [x], ln⟩).ms k = 0 := g1
     have hnn : (Ch.on ⟨ep, [] ++ p :: [x], ln⟩).cfg.n = 2 := rfl
     rw [gq]
     try refine run ?_
     refine W.mixN 8 (List.replicate 15 true) [CfBk b (Ch.on ⟨ep, [] ++ p :: [x], ln⟩).cfg] Tryz.mix (by kernel_rfl) ?_
     try refine run ?_
     refine WX.arFrom (len := 4) (lo := 0) rfl rfl (by decide) rfl ?_
     try refine run ?_
     refine WX.arCut (len := 4) (lo := 0 + 1) (hi := 2) rfl rfl rfl (by decide) (by decide) rfl ?_
     try refine run ?_
     refine WX.copyIn rfl rfl rfl rfl rfl rfl rfl ?_
     try refine run ?_
     have hn2 : (Cfg.wn (Ch.cfg ⟨ep + 1, [] ++ [x] ++ [x], ln⟩) 1).n = 1 := rfl
     refine W.flat (H' := [CfBk b (Cfg.wn (Ch.cfg ⟨ep + 1, [] ++ [x] ++ [x], ln⟩) 1), NBk nb k, R]) rfl ?_
     refine W.mixN 8 (List.replicate 9 true) [CfBk b (Cfg.wn (Ch.cfg ⟨ep + 1, [] ++ [x] ++ [x], ln⟩) 1)] Tryz.mix (by kernel_rfl) ?_
     try refine run ?_
     refine D.flat (H' := [CfBk b (Ch.cfg ⟨ep + 1, [] ++ [x], ln⟩), NBk nb k, R]) rfl ?_
     exact D.fin1 [CfBk b (Ch.cfg ⟨ep + 1, [] ++ [x], ln⟩), NBk nb k] _ rfl rfl ⟨_, rfl, rfl, fun c' h => by cases h; rfl⟩
    ·have gq : plc (Ch.on ⟨ep, [] ++ p :: [x, y], ln⟩).ms k = 0 := g1
     have hnn : (Ch.on ⟨ep, [] ++ p :: [x, y], ln⟩).cfg.n = 3 := rfl
     rw [gq]
     try refine run ?_
     refine W.mixN 8 (List.replicate 15 true) [CfBk b (Ch.on ⟨ep, [] ++ p :: [x, y], ln⟩).cfg] Tryz.mix (by kernel_rfl) ?_
     try refine run ?_
     refine WX.arFrom (len := 4) (lo := 0) rfl rfl (by decide) rfl ?_
     try refine run ?_
     refine WX.arCut (len := 4) (lo := 0 + 1) (hi := 3) rfl rfl rfl (by decide) (by decide) rfl ?_
     try refine run ?_
     refine WX.copyIn rfl rfl rfl rfl rfl rfl rfl ?_
     try refine run ?_
     have hn2 : (Cfg.wn (Ch.cfg ⟨ep + 1, [] ++ [x, y] ++ [y], ln⟩) 2).n = 2 := rfl
     refine W.flat (H' := [CfBk b (Cfg.wn (Ch.cfg ⟨ep + 1, [] ++ [x, y] ++ [y], ln⟩) 2), NBk nb k, R]) rfl ?_
     refine W.mixN 8 (List.replicate 9 true) [CfBk b (Cfg.wn (Ch.cfg ⟨ep + 1, [] ++ [x, y] ++ [y], ln⟩) 2)] Tryz.mix (by kernel_rfl) ?_
     try refine run ?_
     refine D.flat (H' := [CfBk b (Ch.cfg ⟨ep + 1, [] ++ [x, y], ln⟩), NBk nb k, R]) rfl ?_
     exact D.fin1 [CfBk b (Ch.cfg ⟨ep + 1, [] ++ [x, y], ln⟩), NBk nb k] _ rfl rfl ⟨_, rfl, rfl, fun c' h => by cases h; rfl⟩
    ·have gq : plc (Ch.on ⟨ep, [] ++ p :: [x, y, z], ln⟩).ms k = 0 := g1
     have hnn : (Ch.on ⟨ep, [] ++ p :: [x, y, z], ln⟩).cfg.n = 4 := rfl
     rw [gq]
     try refine run ?_
     refine W.mixN 8 (List.replicate 15 true) [CfBk b (Ch.on ⟨ep, [] ++ p :: [x, y, z], ln⟩).cfg] Tryz.mix (by kernel_rfl) ?_
     try refine run ?_
     refine WX.arFrom (len := 4) (lo := 0) rfl rfl (by decide) rfl ?_
     try refine run ?_
     refine WX.arCut (len := 4) (lo := 0 + 1) (hi := 4) rfl rfl rfl (by decide) (by decide) rfl ?_
     try refine run ?_
     refine WX.copyIn rfl rfl rfl rfl rfl rfl rfl ?_
     try refine run ?_
     have hn2 : (Cfg.wn (Ch.cfg ⟨ep + 1, [] ++ [x, y, z] ++ [z], ln⟩) 3).n = 3 := rfl
     refine W.flat (H' := [CfBk b (Cfg.wn (Ch.cfg ⟨ep + 1, [] ++ [x, y, z] ++ [z], ln⟩) 3), NBk nb k, R]) rfl ?_
     refine W.mixN 8 (List.replicate 9 true) [CfBk b (Cfg.wn (Ch.cfg ⟨ep + 1, [] ++ [x, y, z] ++ [z], ln⟩) 3)] Tryz.mix (by kernel_rfl) ?_
     try refine run ?_
     refine D.flat (H' := [CfBk b (Ch.cfg ⟨ep + 1, [] ++ [x, y, z], ln⟩), NBk nb k, R]) rfl ?_
     exact D.fin1 [CfBk b (Ch.cfg ⟨ep + 1, [] ++ [x, y, z], ln⟩), NBk nb k] _ rfl rfl ⟨_, rfl, rfl, fun c' h => by cases h; rfl⟩
    ·have gq : plc (Ch.on ⟨ep, [x] ++ p :: [], ln⟩).ms k = 1 := g1
     have hnn : (Ch.on ⟨ep, [x] ++ p :: [], ln⟩).cfg.n = 2 := rfl
     rw [gq]
     try refine run ?_
     refine W.mixN 8 (List.replicate 15 true) [CfBk b (Ch.on ⟨ep, [x] ++ p :: [], ln⟩).cfg] Tryz.mix (by kernel_rfl) ?_
     try refine run ?_
     refine WX.arFrom (len := 4) (lo := 1) rfl rfl (by decide) rfl ?_
     try refine run ?_
     refine WX.arCut (len := 4) (lo := 1 + 1) (hi := 2) rfl rfl rfl (by decide) (by decide) rfl ?_
     try refine run ?_
     refine WX.copyIn rfl rfl rfl rfl rfl rfl rfl ?_
     try refine run ?_
     have hn2 : (Cfg.wn (Ch.cfg ⟨ep + 1, [x] ++ [] ++ [p], ln⟩) 1).n = 1 := rfl
     refine W.flat (H' := [CfBk b (Cfg.wn (Ch.cfg ⟨ep + 1, [x] ++ [] ++ [p], ln⟩) 1), NBk nb k, R]) rfl ?_
     refine W.mixN 8 (List.replicate 9 true) [CfBk b (Cfg.wn (Ch.cfg ⟨ep + 1, [x] ++ [] ++ [p], ln⟩) 1)] Tryz.mix (by kernel_rfl) ?_
     try refine run ?_
     refine D.flat (H' := [CfBk b (Ch.cfg ⟨ep + 1, [x] ++ [], ln⟩), NBk nb k, R]) rfl ?_
     exact D.fin1 [CfBk b (Ch.cfg ⟨ep + 1, [x] ++ [], ln⟩), NBk nb k] _ rfl rfl ⟨_, rfl, rfl, fun c' h => by cases h; rfl⟩
    ·have gq : plc (Ch.on ⟨ep, [x] ++ p :: [y], ln⟩).ms k = 1 := g1
     have hnn : (Ch.on ⟨ep, [x] ++ p :: [y], ln⟩).cfg.n = 3 := rfl
     rw [gq]
     try refine run ?_
     refine W.mixN 8 (List.replicate 15 true) [CfBk b (Ch.on ⟨ep, [x] ++ p :: [y], ln⟩).cfg] Tryz.mix (by kernel_rfl) ?_
     try refine run ?_
     refine WX.arFrom (len := 4) (lo := 1) rfl rfl (by decide) rfl ?_
     try refine run ?_
     refine WX.arCut (len := 4) (lo := 1 + 1) (hi := 3) rfl rfl rfl (by decide) (by decide) rfl ?_
     try refine run ?_
     refine WX.copyIn rfl rfl rfl rfl rfl rfl rfl ?_
     try refine run ?_
     have hn2 : (Cfg.wn (Ch.cfg ⟨ep + 1, [x] ++ [y] ++ [y], ln⟩) 2).n = 2 := rfl
     refine W.flat (H' := [CfBk b (Cfg.wn (Ch.cfg ⟨ep + 1, [x] ++ [y] ++ [y], ln⟩) 2), NBk nb k, R]) rfl ?_
     refine W.mixN 8 (List.replicate 9 true) [CfBk b (Cfg.wn (Ch.cfg ⟨ep + 1, [x] ++ [y] ++ [y], ln⟩) 2)] Tryz.mix (by kernel_rfl) ?_
     try refine run ?_
     refine D.flat (H' := [CfBk b (Ch.cfg ⟨ep + 1, [x] ++ [y], ln⟩), NBk nb k, R]) rfl ?_
     exact D.fin1 [CfBk b (Ch.cfg ⟨ep + 1, [x] ++ [y], ln⟩), NBk nb k] _ rfl rfl ⟨_, rfl, rfl, fun c' h => by cases h; rfl⟩
    ·have gq : plc (Ch.on ⟨ep, [x] ++ p :: [y, z], ln⟩).ms k = 1 := g1
     have hnn : (Ch.on ⟨ep, [x] ++ p :: [y, z], ln⟩).cfg.n = 4 := rfl
     rw [gq]
     try refine run ?_
     refine W.mixN 8 (List.replicate 15 true) [CfBk b (Ch.on ⟨ep, [x] ++ p :: [y, z], ln⟩).cfg] Tryz.mix (by kernel_rfl) ?_
     try refine run ?_
     refine WX.arFrom (len := 4) (lo := 1) rfl rfl (by decide) rfl ?_
     try refine run ?_
     refine WX.arCut (len := 4) (lo := 1 + 1) (hi := 4) rfl rfl rfl (by decide) (by decide) rfl ?_
     try refine run ?_
     refine WX.copyIn rfl rfl rfl rfl rfl rfl rfl ?_
     try refine run ?_
     have hn2 : (Cfg.wn (Ch.cfg ⟨ep + 1, [x] ++ [y, z] ++ [z], ln⟩) 3).n = 3 := rfl
     refine W.flat (H' := [CfBk b (Cfg.wn (Ch.cfg ⟨ep + 1, [x] ++ [y, z] ++ [z], ln⟩) 3), NBk nb k, R]) rfl ?_
     refine W.mixN 8 (List.replicate 9 true) [CfBk b (Cfg.wn (Ch.cfg ⟨ep + 1, [x] ++ [y, z] ++ [z], ln⟩) 3)] Tryz.mix (by kernel_rfl) ?_
     try refine run ?_
     refine D.flat (H' := [CfBk b (Ch.cfg ⟨ep + 1, [x] ++ [y, z], ln⟩), NBk nb k, R]) rfl ?_
     exact D.fin1 [CfBk b (Ch.cfg ⟨ep + 1, [x] ++ [y, z], ln⟩), NBk nb k] _ rfl rfl ⟨_, rfl, rfl, fun c' h => by cases h; rfl⟩
    ·have gq : plc (Ch.on ⟨ep, [x, y] ++ p :: [], ln⟩).ms k = 2 := g1
     have hnn : (Ch.on ⟨ep, [x, y] ++ p :: [], ln⟩).cfg.n = 3 := rfl
     rw [gq]
     try refine run ?_
     refine W.mixN 8 (List.replicate 15 true) [CfBk b (Ch.on ⟨ep, [x, y] ++ p :: [], ln⟩).cfg] Tryz.mix (by kernel_rfl) ?_
     try refine run ?_
     refine WX.arFrom (len := 4) (lo := 2) rfl rfl (by decide) rfl ?_
     try refine run ?_
     refine WX.arCut (len := 4) (lo := 2 + 1) (hi := 3) rfl rfl rfl (by decide) (by decide) rfl ?_
     try refine run ?_
     refine WX.copyIn rfl rfl rfl rfl rfl rfl rfl ?_
     try refine run ?_
     have hn2 : (Cfg.wn (Ch.cfg ⟨ep + 1, [x, y] ++ [] ++ [p], ln⟩) 2).n = 2 := rfl
     refine W.flat (H' := [CfBk b (Cfg.wn (Ch.cfg ⟨ep + 1, [x, y] ++ [] ++ [p], ln⟩) 2), NBk nb k, R]) rfl ?_
     refine W.mixN 8 (List.replicate 9 true) [CfBk b (Cfg.wn (Ch.cfg ⟨ep + 1, [x, y] ++ [] ++ [p], ln⟩) 2)] Tryz.mix (by kernel_rfl) ?_
     try refine run ?_
     refine D.flat (H' := [CfBk b (Ch.cfg ⟨ep + 1, [x, y] ++ [], ln⟩), NBk nb k, R]) rfl ?_
     exact D.fin1 [CfBk b (Ch.cfg ⟨ep + 1, [x, y] ++ [], ln⟩), NBk nb k] _ rfl rfl ⟨_, rfl, rfl, fun c' h => by cases h; rfl⟩
    ·have gq : plc (Ch.on ⟨ep, [x, y] ++ p :: [z], ln⟩).ms k = 2 := g1
     have hnn : (Ch.on ⟨ep, [x, y] ++ p :: [z], ln⟩).cfg.n = 4 := rfl
     rw [gq]
     try refine run ?_
     refine W.mixN 8 (List.replicate 15 true) [CfBk b (Ch.on ⟨ep, [x, y] ++ p :: [z], ln⟩).cfg] Tryz.mix (by kernel_rfl) ?_
     try refine run ?_
     refine WX.arFrom (len := 4) (lo := 2) rfl rfl (by decide) rfl ?_
     try refine run ?_
     refine WX.arCut (len := 4) (lo := 2 + 1) (hi := 4) rfl rfl rfl (by decide) (by decide) rfl ?_
     try refine run ?_
     refine WX.copyIn rfl rfl rfl rfl rfl rfl rfl ?_
     try refine run ?_
     have hn2 : (Cfg.wn (Ch.cfg ⟨ep + 1, [x, y] ++ [z] ++ [z], ln⟩) 3).n = 3 := rfl
     refine W.flat (H' := [CfBk b (Cfg.wn (Ch.cfg ⟨ep + 1, [x, y] ++ [z] ++ [z], ln⟩) 3), NBk nb k, R]) rfl ?_
     refine W.mixN 8 (List.replicate 9 true) [CfBk b (Cfg.wn (Ch.cfg ⟨ep + 1, [x, y] ++ [z] ++ [z], ln⟩) 3)] Tryz.mix (by kernel_rfl) ?_
     try refine run ?_
     refine D.flat (H' := [CfBk b (Ch.cfg ⟨ep + 1, [x, y] ++ [z], ln⟩), NBk nb k, R]) rfl ?_
     exact D.fin1 [CfBk b (Ch.cfg ⟨ep + 1, [x, y] ++ [z], ln⟩), NBk nb k] _ rfl rfl ⟨_, rfl, rfl, fun c' h => by cases h; rfl⟩
    ·have gq : plc (Ch.on ⟨ep, [x, y, z] ++ p :: [], ln⟩).ms k = 3 := g1
     have hnn : (Ch.on ⟨ep, [x, y, z] ++ p :: [], ln⟩).cfg.n = 4 := rfl
     rw [gq]
     try refine run ?_
     refine W.mixN 8 (List.replicate 15 true) [CfBk b (Ch.on ⟨ep, [x, y, z] ++ p :: [], ln⟩).cfg] Tryz.mix (by kernel_rfl) ?_
     try refine run ?_
     refine WX.arFrom (len := 4) (lo := 3) rfl rfl (by decide) rfl ?_
     try refine run ?_
     refine WX.arCut (len := 4) (lo := 3 + 1) (hi := 4) rfl rfl rfl (by decide) (by decide) rfl ?_
     try refine run ?_
     refine WX.copyIn rfl rfl rfl rfl rfl rfl rfl ?_
     try refine run ?_
     have hn2 : (Cfg.wn (Ch.cfg ⟨ep + 1, [x, y, z] ++ [] ++ [p], ln⟩) 3).n = 3 := rfl
     refine W.flat (H' := [CfBk b (Cfg.wn (Ch.cfg ⟨ep + 1, [x, y, z] ++ [] ++ [p], ln⟩) 3), NBk nb k, R]) rfl ?_
     refine W.mixN 8 (List.replicate 9 true) [CfBk b (Cfg.wn (Ch.cfg ⟨ep + 1, [x, y, z] ++ [] ++ [p], ln⟩) 3)] Tryz.mix (by kernel_rfl) ?_
     try refine run ?_
     refine D.flat (H' := [CfBk b (Ch.cfg ⟨ep + 1, [x, y, z] ++ [], ln⟩), NBk nb k, R]) rfl ?_
     exact D.fin1 [CfBk b (Ch.cfg ⟨ep + 1, [x, y, z] ++ [], ln⟩), NBk nb k] _ rfl rfl ⟨_, rfl, rfl, fun c' h => by cases h; rfl⟩
  ·have hno : c.has k = false := by cases h : c.has k with | false => rfl | true => exact absurd h hh
   have ha : dropL c k = none := by unfold dropL; rw [if_neg he, if_neg (by rw [hnl]; decide), if_pos (.inl hno)]
   have g1 : plc c.on.ms k = -1 := plc_none fun q hq h => hh (Ch.has_iff.2 ⟨q, hq, h⟩)
   rw [g1]
   try refine run ?_
   rw [ha]
   exact D.fin1 [CfBk b c.on.cfg, NBk nb k] _ rfl rfl ⟨_, rfl, rfl, fun c' h => by cases h⟩
end Go.Proofs.YtejfahjgfedliaaGreat

namespace Go.Proofs.YtejfahjgfedliaaGreat
open Go Go.Sl Go.Proofs.Tryz
def withV (nb : Nat) : Value := .func (.func 131) (List.toArray []) (List.toArray [.pointer (some ⟨nb, 0, none⟩)])
def dropV (nb : Nat) : Value := .func (.func 128) (List.toArray []) (List.toArray [.pointer (some ⟨nb, 0, none⟩)])
def growV : Value := .func (.func 136) (List.toArray []) (List.toArray [])
set_option maxRecDepth 20000 in
theorem turnWith_ct {c : Ch} (ok : ChOk c) (nb : Nat) (k : Int) :
  Ct prog 127 [.agg (List.toArray c.cfg.enc), withV nb] [NBk nb k] (fun r H' => r = chRes (addL c k) ∧ H' = [NBk nb k]) := by
 have he1 : 1 ≤ c.cfg.ep := ok.e1
 have he2 : c.cfg.ep ≤ 1099511627776 := ok.e2
 refine Ct.mk' func127 rfl rfl rfl (fun g R => ?_)
 try simp only [ca]
 simp only [na]
 repeat' (first | refine run ?_ | refine bx rfl (fun _ => ?_) | refine al (fun _ => ?_) | fail)
 refine WX.callQ rfl (right_ct ok) rfl ?_
 by_cases he : c.ep = 1099511627776
 ·have hep : c.cfg.ep = 1099511627776 := he
  have ha : addL c k = none := by unfold addL; rw [if_pos (.inl he)]
  rw [ha]
  try refine run ?_
  exact D.finR [NBk nb k] _ rfl (.cellA rfl rfl (.tmp rfl .nil)) rfl ⟨rfl, rfl⟩
 ·have hep : ¬ c.cfg.ep = 1099511627776 := he
  try refine run ?_
  rename_i b b4
  refine WX.hp (H' := [CfBk b4 Cfg.z, CfBk b c.on.cfg, NBk nb k, R]) rfl ?_
  refine WX.callV rfl rfl (withF_ct ok he b nb k) rfl ?_
  rintro _ _ ⟨c2, rfl, rfl, hc2⟩
  simp only [ca, na]
  cases ha : addL c k with
  | none =>
   try refine run ?_
   exact D.finR [NBk nb k] _ rfl (.cellA rfl rfl (.tmp rfl .nil)) rfl ⟨rfl, rfl⟩
  | some c' =>
   obtain rfl := hc2 c' ha
   try refine run ?_
   exact D.finR [NBk nb k] _ rfl (.cellA rfl rfl (.tmp rfl .nil)) rfl ⟨rfl, rfl⟩
set_option maxRecDepth 20000 in
theorem turnDrop_ct {c : Ch} (ok : ChOk c) (nb : Nat) (k : Int) :
  Ct prog 127 [.agg (List.toArray c.cfg.enc), dropV nb] [NBk nb k] (fun r H' => r = chRes (dropL c k) ∧ H' = [NBk nb k]) := by
 have he1 : 1 ≤ c.cfg.ep := ok.e1
 have he2 : c.cfg.ep ≤ 1099511627776 := ok.e2
 refine Ct.mk' func127 rfl rfl rfl (fun g R => ?_)
 try simp only [ca]
 simp only [na]
 repeat' (first | refine run ?_ | refine bx rfl (fun _ => ?_) | refine al (fun _ => ?_) | fail)
 refine WX.callQ rfl (right_ct ok) rfl ?_
 by_cases he : c.ep = 1099511627776
 ·have hep : c.cfg.ep = 1099511627776 := he
  have ha : dropL c k = none := by unfold dropL; rw [if_pos he]
  rw [ha]
  try refine run ?_
  exact D.finR [NBk nb k] _ rfl (.cellA rfl rfl (.tmp rfl .nil)) rfl ⟨rfl, rfl⟩
 ·have hep : ¬ c.cfg.ep = 1099511627776 := he
  try refine run ?_
  rename_i b b4
  refine WX.hp (H' := [CfBk b4 Cfg.z, CfBk b c.on.cfg, NBk nb k, R]) rfl ?_
  refine WX.callV rfl rfl (dropF_ct ok he b nb k) rfl ?_
  rintro _ _ ⟨c2, rfl, rfl, hc2⟩
  simp only [ca, na]
  cases ha : dropL c k with
  | none =>
   try refine run ?_
   exact D.finR [NBk nb k] _ rfl (.cellA rfl rfl (.tmp rfl .nil)) rfl ⟨rfl, rfl⟩
  | some c' =>
   obtain rfl := hc2 c' ha
   try refine run ?_
   exact D.finR [NBk nb k] _ rfl (.cellA rfl rfl (.tmp rfl .nil)) rfl ⟨rfl, rfl⟩
set_option maxRecDepth 20000 in
theorem turnGrow_ct {c : Ch} (ok : ChOk c) :
  Ct prog 127 [.agg (List.toArray c.cfg.enc), growV] [] (fun r H' => r = chRes (growL c) ∧ H' = []) := by
 have he1 : 1 ≤ c.cfg.ep := ok.e1
 have he2 : c.cfg.ep ≤ 1099511627776 := ok.e2
 refine Ct.mk' func127 rfl rfl rfl (fun g R => ?_)
 try simp only [ca]
 simp only [na]
 repeat' (first | refine run ?_ | refine bx rfl (fun _ => ?_) | refine al (fun _ => ?_) | fail)
 refine WX.callQ rfl (right_ct ok) rfl ?_
 by_cases he : c.ep = 1099511627776
 ·have hep : c.cfg.ep = 1099511627776 := he
  have ha : growL c = none := by unfold growL; rw [if_pos he]
  rw [ha]
  try refine run ?_
  exact D.finR [] _ rfl (.cellA rfl rfl (.tmp rfl .nil)) rfl ⟨rfl, rfl⟩
 ·have hep : ¬ c.cfg.ep = 1099511627776 := he
  try refine run ?_
  rename_i b b4
  refine WX.hp (H' := [CfBk b4 Cfg.z, CfBk b c.on.cfg, R]) rfl ?_
  refine WX.callV rfl rfl (growF_ct ok he b) rfl ?_
  rintro _ _ ⟨c2, rfl, rfl, hc2⟩
  simp only [ca, na]
  cases ha : growL c with
  | none =>
   try refine run ?_
   exact D.finR [] _ rfl (.cellA rfl rfl (.tmp rfl .nil)) rfl ⟨rfl, rfl⟩
  | some c' =>
   obtain rfl := hc2 c' ha
   try refine run ?_
   exact D.finR [] _ rfl (.cellA rfl rfl (.tmp rfl .nil)) rfl ⟨rfl, rfl⟩
theorem with_ct {c : Ch} (ok : ChOk c) (k : Int) :
  Ct prog 75 [.agg (List.toArray c.cfg.enc), .int .i64 k] [] (fun r H' => r = chRes (addL c k) ∧ H' = []) := by
 refine Ct.mk' func75 rfl rfl rfl (fun g R => ?_)
 try simp only [ca]
 simp only [na]
 repeat' (first | refine run ?_ | refine bx rfl (fun _ => ?_) | refine al (fun _ => ?_) | (refine WX.makeFunc (first := []) rfl rfl rfl ?_) | fail)
 rename_i b nb b4
 refine WX.call rfl (turnWith_ct ok nb k) rfl ?_
 rintro _ _ ⟨rfl, rfl⟩
 unfold chRes
 generalize (addL c k).isSome = cb
 simp only [ca, na]
 try refine run ?_
 exact D.finR [] _ rfl (.cellA rfl rfl (.tmp rfl .nil)) rfl ⟨rfl, rfl⟩
theorem drop_ct {c : Ch} (ok : ChOk c) (k : Int) :
  Ct prog 74 [.agg (List.toArray c.cfg.enc), .int .i64 k] [] (fun r H' => r = chRes (dropL c k) ∧ H' = []) := by
 refine Ct.mk' func74 rfl rfl rfl (fun g R => ?_)
 try simp only [ca]
 simp only [na]
 repeat' (first | refine run ?_ | refine bx rfl (fun _ => ?_) | refine al (fun _ => ?_) | (refine WX.makeFunc (first := []) rfl rfl rfl ?_) | fail)
 rename_i b nb b4
 refine WX.call rfl (turnDrop_ct ok nb k) rfl ?_
 rintro _ _ ⟨rfl, rfl⟩
 unfold chRes
 generalize (dropL c k).isSome = cb
 simp only [ca, na]
 try refine run ?_
 exact D.finR [] _ rfl (.cellA rfl rfl (.tmp rfl .nil)) rfl ⟨rfl, rfl⟩
theorem grow_ct {c : Ch} (ok : ChOk c) :
  Ct prog 77 [.agg (List.toArray c.cfg.enc)] [] (fun r H' => r = chRes (growL c) ∧ H' = []) := by
 refine Ct.mk' func77 rfl rfl rfl (fun g R => ?_)
 try simp only [ca]
 simp only [na]
 repeat' (first | refine run ?_ | refine bx rfl (fun _ => ?_) | refine al (fun _ => ?_) | fail)
 rename_i b b4
 refine WX.call rfl (turnGrow_ct ok) rfl ?_
 rintro _ _ ⟨rfl, rfl⟩
 unfold chRes
 generalize (growL c).isSome = cb
 simp only [ca, na]
 try refine run ?_
 exact D.finR [] _ rfl (.cellA rfl rfl (.tmp rfl .nil)) rfl ⟨rfl, rfl⟩
end Go.Proofs.YtejfahjgfedliaaGreat

namespace Go.Proofs.YtejfahjgfedliaaGreat
open Go Go.Sl Go.Proofs.Tryz List
theorem nodes_ct {c : Ch} (ok : ChOk c) :
  Ct prog 40 [.agg (List.toArray c.cfg.enc)] [] (fun r H' => ∃ h', IsSl 3 (c.all.map (·.nd)) r h' ∧ H' = [h']) := by
 have hall : c.all.length ≤ 4 := by have := ok.l4; unfold Ch.all; rw [length_append]; exact this
 refine Ct.mk' func40 rfl rfl rfl (fun g R => ?_)
 try simp only [ca]
 simp only [na]
 repeat' (first | refine run ?_ | refine bx rfl (fun _ => ?_) | fail)
 refine WX.callQ rfl (right_ct ok) rfl ?_
 try refine run ?_
 rename_i b
 refine WX.call rfl (members_ct ok) rfl ?_
 rintro _ _ ⟨hm, hsm, rfl⟩
 have hrm := hsm.rs
 obtain ⟨vp, vc, rfl⟩ := hrm.len
 simp only [ca, na]
 try refine run ?_
 refine W.nilH ?_
 refine W.loop (α := Nat × Value × Hp) (fun x => x.1 ≤ c.all.length ∧ IsSl 3 ((c.all.take x.1).map (·.nd)) x.2.1 x.2.2) (fun x => [(1, .pointer (some ⟨b, 0, none⟩)), (3, x.2.1), (10, .slice vp c.all.length vc), (11, .int .i64 (c.all.length : Nat)), (12, .int .i64 (x.1 : Int))]) (fun x => [x.2.2, hm, CfBk b c.cfg, R]) (fun x => c.all.length - x.1) (0, .slice none 0 0, []) ⟨Nat.zero_le _, IsSl.nil _⟩ (by repeat (first | exact Fsub.nil | refine Fsub.cons rfl ?_)) (Hsub.of_picks inferInstance) ?_
 rintro ⟨k, v, h⟩ ⟨hk, hs⟩
 simp only [] at hk hs ⊢
 have hvl : ((c.all.take k).map (·.nd)).length ≤ 4 := by rw [length_map, length_take]; omega
 by_cases hlt : k < c.all.length
 ·obtain ⟨m, hmk⟩ : ∃ m, c.all[k]? = some m := ⟨_, List.getElem?_eq_getElem hlt⟩
  repeat' (first | refine run ?_ | refine al (fun _ => ?_) | fail)
  refine I.bs ?_
  refine WX.lit (ys := [m.nd]) rfl rfl rfl rfl rfl rfl (by decide) rfl (fun v2 h2 hs2 => ?_)
  skip
  refine WX.app rfl rfl hs hs2.rs rfl rfl (by decide) (by simp only [length_cons, length_nil]; omega) rfl (fun v3 h3 hs3 => ?_)
  have hs3 : IsSl 3 ((c.all.take (k + 1)).map (·.nd)) v3 h3 := by rw [take_add_one, hmk, map_append]; exact hs3
  try refine run ?_
  exact D.rd (k + 1, v3, h3) ⟨by simp only []; omega, hs3⟩ (by simp only []; omega)
 ·obtain rfl : k = c.all.length := by omega
  rw [take_length] at hs
  try refine run ?_
  exact D.fin1 [h] _ rfl rfl ⟨h, hs, rfl⟩
def iplc (xs : List Int) (k : Int) : Int := match xs.findIdx? (fun p => decide (p = k)) with | none => -1 | some i => (i : Int)
theorem iplc_some {ms : List Int} {k : Int} {j : Nat} {p : Int} (hp : ms[j]? = some p) (hpk : p = k) (hall : ∀ i p, i < j → ms[i]? = some p → ¬ p = k) : iplc ms k = (j : Int) := by
 have hf : ms.findIdx? (fun p => decide (p = k)) = some j := by
  rw [List.findIdx?_eq_some_iff_getElem]
  obtain ⟨h1, h2⟩ := List.getElem?_eq_some_iff.1 hp
  refine ⟨h1, by rw [h2]; simpa using hpk, fun i hi => ?_⟩
  have := hall i _ hi (List.getElem?_eq_getElem (by omega))
  simpa using this
 unfold iplc; rw [hf]
theorem iplc_none {ms : List Int} {k : Int} (hall : ∀ p ∈ ms, ¬ p = k) : iplc ms k = -1 := by
 have hf : ms.findIdx? (fun p => decide (p = k)) = none := by
  rw [List.findIdx?_eq_none_iff]
  intro x hx
  simpa using hall x hx
 unfold iplc; rw [hf]
theorem index_ct {ps : List Int} {v : Value} {h : Hp} (hs : Rs ps v h) (k : Int) (hl : ps.length ≤ 1000000) :
  Ct prog 78 [v, .int .i64 k] [h] (fun r H' => r = .int .i64 (iplc ps k) ∧ H' = [h]) := by
 refine Ct.mk' func78 rfl rfl rfl (fun g R => ?_)
 try simp only [ca]
 simp only [na]
 try refine run ?_
 refine W.loop (α := Nat) (fun j => j ≤ ps.length ∧ ∀ i p, i < j → ps[i]? = some p → ¬ p = k) (fun j => [(0, v), (1, .int .i64 k), (7, .int .i64 (ps.length : Int)), (8, .int .i64 (j : Int))]) (fun _ => [h, R]) (fun j => ps.length - j) 0 ⟨Nat.zero_le _, fun i p hi => absurd hi (Nat.not_lt_zero _)⟩ (by repeat (first | exact Fsub.nil | refine Fsub.cons rfl ?_)) (Hsub.of_picks inferInstance) ?_
 rintro j ⟨hj, hall⟩
 by_cases hlt : j < ps.length
 ·obtain ⟨p, hp⟩ : ∃ p, ps[j]? = some p := ⟨_, List.getElem?_eq_getElem hlt⟩
  by_cases hpk : k = p
  ·try refine run ?_
   exact D.fin1 [h] _ rfl rfl ⟨by rw [iplc_some hp hpk.symm hall], rfl⟩
  ·try refine run ?_
   refine D.rd (j + 1) ⟨by omega, fun i p' hi hp' => ?_⟩ (by omega)
   rcases Nat.lt_or_ge i j with h | h
   ·exact hall i p' h hp'
   ·obtain rfl : i = j := by omega
    rw [hp] at hp'
    cases hp'
    exact fun e => hpk e.symm
 ·have hno : ∀ p ∈ ps, ¬ p = k := fun x hx => by
   obtain ⟨i, hi⟩ := mem_iff_getElem?.1 hx
   have hlt := (List.getElem?_eq_some_iff.1 hi).1
   exact hall i x (by omega) hi
  try refine run ?_
  exact D.fin1 [h] _ rfl rfl ⟨by rw [iplc_none hno], rfl⟩
end Go.Proofs.YtejfahjgfedliaaGreat

namespace Go.Proofs.YtejfahjgfedliaaGreat
open Go Go.Sl
end Go.Proofs.YtejfahjgfedliaaGreat

namespace Go.Proofs.YtejfahjgfedliaaGreat
open Go Go.Sl Go.Proofs.Tryz List
def cfO (o : Option Ch) : Cfg := match o with
 | none => Cfg.z
 | some c => c.cfg
def ChO (o : Option Ch) : Prop := ∀ c, o = some c → ChOk c
theorem ChO.none : ChO none := fun c h => by cases h
theorem ChO.some {c : Ch} (ok : ChOk c) : ChO (some c) := fun c' h => by cases h; exact ok
def nodesO (o : Option Ch) : List Int := match o with
 | none => []
 | some c => c.all.map (·.nd)
theorem nodesO_len {o : Option Ch} (ok : ChO o) : (nodesO o).length ≤ 4 := by
 cases o with
 | none => exact Nat.zero_le _
 | some c =>
  have := (ok c rfl).l4
  show (c.all.map (·.nd)).length ≤ 4
  rw [length_map]; unfold Ch.all; rw [length_append]; exact this
theorem right_z : ¬ RightC Cfg.z := fun h => absurd h.1.1 (by decide)
theorem nodesO_ct {o : Option Ch} (ok : ChO o) :
  Ct prog 40 [.agg (List.toArray (cfO o).enc)] [] (fun r H' => ∃ h', IsSl 3 (nodesO o) r h' ∧ H' = [h']) := by
 cases o with
 | some c => exact nodes_ct (ok c rfl)
 | none =>
  have hr := rightG_ct Cfg.z
  rw [decide_eq_false right_z] at hr
  refine Ct.mk' func40 rfl rfl rfl (fun g R => ?_)
  try simp only [ca]
  simp only [na]
  repeat' (first | refine run ?_ | refine bx rfl (fun _ => ?_) | refine WX.callQ rfl hr rfl ?_ | fail)
  refine D.nilH ?_
  exact D.fin1 [[]] _ rfl rfl ⟨[], IsSl.nil _, rfl⟩
def atL (xs : List Int) (i : Int) : Int := if i < 0 ∨ (xs.length : Int) ≤ i then -1 else xs.getD i.toNat 0
theorem at_ct {xs : List Int} {v : Value} {h : Hp} (hs : Rs xs v h) (i : Int) :
  Ct prog 79 [v, .int .i64 i] [h] (fun r H' => r = .int .i64 (atL xs i) ∧ H' = [h]) := by
 refine Ct.mk' func79 rfl rfl rfl (fun g R => ?_)
 try simp only [ca]
 simp only [na]
 by_cases h0 : i < 0
 ·have e : atL xs i = -1 := by unfold atL; rw [if_pos (.inl h0)]
  rw [e]
  try refine run ?_
  exact D.fin1 [h] _ rfl rfl ⟨rfl, rfl⟩
 ·by_cases h1 : (xs.length : Int) ≤ i
  ·have e : atL xs i = -1 := by unfold atL; rw [if_pos (.inr h1)]
   rw [e]
   try refine run ?_
   exact D.fin1 [h] _ rfl rfl ⟨rfl, rfl⟩
  ·obtain ⟨x, hx⟩ : ∃ x, xs[i.toNat]? = some x := ⟨_, List.getElem?_eq_getElem (by omega)⟩
   have e : atL xs i = x := by unfold atL; rw [if_neg (by omega), getD_eq_getElem?_getD, hx, Option.getD_some]
   rw [e]
   try refine run ?_
   exact D.fin1 [h] _ rfl rfl ⟨rfl, rfl⟩
theorem cfO_n {o : Option Ch} (ok : ChO o) : 0 ≤ (cfO o).n ∧ (cfO o).n ≤ 4 := by
 cases o with
 | none => exact ⟨by decide, by decide⟩
 | some c => have := (ok c rfl).l4; exact ⟨Int.natCast_nonneg _, by show (c.ms.length : Int) ≤ 4; omega⟩
def headO (o : Option Ch) : Int := atL (nodesO o) 0
theorem head_ct {o : Option Ch} (ok : ChO o) : Ct prog 176 [.agg (List.toArray (cfO o).enc)] [] (fun r H' => r = .int .i64 (headO o) ∧ H' = []) := by
 refine Ct.mk' func176 rfl rfl rfl (fun g R => ?_)
 try simp only [ca]
 simp only [na]
 repeat' (first | refine run ?_ | refine bx rfl (fun _ => ?_) | fail)
 refine WX.call rfl (nodesO_ct ok) rfl ?_
 rintro _ _ ⟨h1, hs1, rfl⟩
 simp only [ca, na]
 skip
 refine WX.callQ rfl (at_ct hs1.rs 0) rfl ?_
 try refine run ?_
 exact D.fin1 [] _ rfl rfl ⟨rfl, rfl⟩
def lastO (o : Option Ch) : Int := atL (nodesO o) ((cfO o).n - 1)
theorem last_ct {o : Option Ch} (ok : ChO o) : Ct prog 210 [.agg (List.toArray (cfO o).enc)] [] (fun r H' => r = .int .i64 (lastO o) ∧ H' = []) := by
 have hn := cfO_n ok
 refine Ct.mk' func210 rfl rfl rfl (fun g R => ?_)
 try simp only [ca]
 simp only [na]
 repeat' (first | refine run ?_ | refine bx rfl (fun _ => ?_) | fail)
 rename_i cb
 refine W.mixN 8 [true, false, true, true, true, false] [CfBk cb (cfO o)] Tryz.mix (by kernel_rfl) ?_
 try refine run ?_
 refine WX.call rfl (nodesO_ct ok) rfl ?_
 rintro _ _ ⟨h1, hs1, rfl⟩
 simp only [ca, na]
 try refine run ?_
 refine WX.callQ rfl (at_ct hs1.rs ((cfO o).n - 1)) rfl ?_
 try refine run ?_
 exact D.fin1 [] _ rfl rfl ⟨rfl, rfl⟩
def aheadO (o : Option Ch) (n : Int) : Int := atL (nodesO o) (iplc (nodesO o) n - 1)
theorem iplc_range (xs : List Int) (k : Int) : -1 ≤ iplc xs k ∧ iplc xs k ≤ (xs.length : Int) := by
 unfold iplc
 cases h : xs.findIdx? (fun p => decide (p = k)) with
 | none => simp only []; omega
 | some i => have := (List.findIdx?_eq_some_iff_getElem.1 h).1; simp only []; omega
theorem ahead_ct {o : Option Ch} (ok : ChO o) (n : Int) : Ct prog 54 [.agg (List.toArray (cfO o).enc), .int .i64 n] [] (fun r H' => r = .int .i64 (aheadO o n) ∧ H' = []) := by
 have hl := nodesO_len ok
 have hi := iplc_range (nodesO o) n
 refine Ct.mk' func54 rfl rfl rfl (fun g R => ?_)
 try simp only [ca]
 simp only [na]
 repeat' (first | refine run ?_ | refine bx rfl (fun _ => ?_) | fail)
 refine WX.call rfl (nodesO_ct ok) rfl ?_
 rintro _ _ ⟨h1, hs1, rfl⟩
 simp only [ca, na]
 try refine run ?_
 refine WX.callQ rfl (index_ct hs1.rs n (by omega)) rfl ?_
 try refine run ?_
 refine WX.callQ rfl (at_ct hs1.rs (iplc (nodesO o) n - 1)) rfl ?_
 try refine run ?_
 exact D.fin1 [] _ rfl rfl ⟨rfl, rfl⟩
def behindO (o : Option Ch) (n : Int) : Int := if iplc (nodesO o) n < 0 then -1 else atL (nodesO o) (iplc (nodesO o) n + 1)
theorem behind_ct {o : Option Ch} (ok : ChO o) (n : Int) : Ct prog 38 [.agg (List.toArray (cfO o).enc), .int .i64 n] [] (fun r H' => r = .int .i64 (behindO o n) ∧ H' = []) := by
 have hl := nodesO_len ok
 have hi := iplc_range (nodesO o) n
 refine Ct.mk' func38 rfl rfl rfl (fun g R => ?_)
 try simp only [ca]
 simp only [na]
 repeat' (first | refine run ?_ | refine bx rfl (fun _ => ?_) | fail)
 refine WX.call rfl (nodesO_ct ok) rfl ?_
 rintro _ _ ⟨h1, hs1, rfl⟩
 simp only [ca, na]
 try refine run ?_
 refine WX.callQ rfl (index_ct hs1.rs n (by omega)) rfl ?_
 by_cases h0 : iplc (nodesO o) n < 0
 ·have e : behindO o n = -1 := if_pos h0
  rw [e]
  try refine run ?_
  exact D.fin1 [] _ rfl rfl ⟨rfl, rfl⟩
 ·have e : behindO o n = atL (nodesO o) (iplc (nodesO o) n + 1) := if_neg h0
  rw [e]
  try refine run ?_
  refine WX.callQ rfl (at_ct hs1.rs (iplc (nodesO o) n + 1)) rfl ?_
  try refine run ?_
  exact D.fin1 [] _ rfl rfl ⟨rfl, rfl⟩
def fullO (o : Option Ch) (n : Int) : Bool := decide (0 ≤ iplc (nodesO o) n ∧ iplc (nodesO o) n < (cfO o).n)
theorem fullO_ct {o : Option Ch} (ok : ChO o) (n : Int) : Ct prog 36 [.agg (List.toArray (cfO o).enc), .int .i64 n] [] (fun r H' => r = .bool (fullO o n) ∧ H' = []) := by
 have hl := nodesO_len ok
 have hi := iplc_range (nodesO o) n
 unfold fullO
 refine Ct.mk' func36 rfl rfl rfl (fun g R => ?_)
 try simp only [ca]
 simp only [na]
 repeat' (first | refine run ?_ | refine bx rfl (fun _ => ?_) | fail)
 refine WX.call rfl (nodesO_ct ok) rfl ?_
 rintro _ _ ⟨h1, hs1, rfl⟩
 simp only [ca, na]
 try refine run ?_
 refine WX.callQ rfl (index_ct hs1.rs n (by omega)) rfl ?_
 by_cases h0 : 0 ≤ iplc (nodesO o) n
 ·by_cases h2 : iplc (nodesO o) n < (cfO o).n
  ·try refine run ?_
   exact D.fin1 [] _ rfl rfl ⟨by simp [h0, h2], rfl⟩
  ·try refine run ?_
   exact D.fin1 [] _ rfl rfl ⟨by simp [h0, h2], rfl⟩
 ·try refine run ?_
  exact D.fin1 [] _ rfl rfl ⟨by simp [h0], rfl⟩
def sinceO (o : Option Ch) (k : Int) : Int := match o with
 | none => 0
 | some c => match c.all.findIdx? (fun p => decide (p.nd = k)) with
  | none => 0
  | some j => (c.all.getD j Mem.z).sn
theorem iplc_plc {ms : List Mem} {k : Int} : iplc (ms.map (·.nd)) k = plc ms k := by unfold iplc plc; rw [List.findIdx?_map]; rfl
theorem sinceO_ct {o : Option Ch} (ok : ChO o) (k : Int) :
  Ct prog 62 [.agg (List.toArray (cfO o).enc), .int .i64 k] [] (fun r H' => r = .int .i64 (sinceO o k) ∧ H' = []) := by
 have hl := nodesO_len ok
 refine Ct.mk' func62 rfl rfl rfl (fun g R => ?_)
 try simp only [ca]
 simp only [na]
 repeat' (first | refine run ?_ | refine bx rfl (fun _ => ?_) | fail)
 refine WX.call rfl (nodesO_ct ok) rfl ?_
 rintro _ _ ⟨h1, hs1, rfl⟩
 simp only [ca, na]
 try refine run ?_
 refine WX.callQ rfl (index_ct hs1.rs k (by omega)) rfl ?_
 cases o with
 | none =>
  have e : iplc (nodesO none) k = -1 := rfl
  rw [e]
  try refine run ?_
  exact D.fin1 [] _ rfl rfl ⟨rfl, rfl⟩
 | some c =>
  have okc := ok c rfl
  rw [show iplc (nodesO (some c)) k = plc c.all k from iplc_plc]
  cases hf : c.all.findIdx? (fun p => decide (p.nd = k)) with
  | none =>
   have e : plc c.all k = -1 := by unfold plc; rw [hf]
   have e2 : sinceO (some c) k = 0 := by unfold sinceO; simp only []; rw [hf]
   rw [e, e2]
   try refine run ?_
   exact D.fin1 [] _ rfl rfl ⟨rfl, rfl⟩
  | some j =>
   have e : plc c.all k = (j : Int) := by unfold plc; rw [hf]
   obtain ⟨hj, _⟩ := List.findIdx?_eq_some_iff_getElem.1 hf
   obtain ⟨m, hm⟩ : ∃ m, c.all[j]? = some m := ⟨_, List.getElem?_eq_getElem hj⟩
   have e2 : sinceO (some c) k = m.sn := by unfold sinceO; simp only []; rw [hf]; simp only [getD_eq_getElem?_getD, hm, Option.getD_some]
   rw [e, e2]
   try refine run ?_
   refine WX.call rfl (members_ct okc) rfl ?_
   rintro _ _ ⟨h2, hs2, rfl⟩
   have hr2 := hs2.rs
   simp only [ca, na]
   try refine run ?_
   exact D.fin1 [] _ rfl rfl ⟨rfl, rfl⟩
end Go.Proofs.YtejfahjgfedliaaGreat

namespace Go.Proofs.YtejfahjgfedliaaGreat
open Go Go.Sl List
def mx (i j : Int) : Int := if j > i then j else i
theorem mx_le (i j : Int) : i ≤ mx i j ∧ j ≤ mx i j := by unfold mx; split <;> omega
def V9.tab (f : Nat → Int) : V9 := ⟨f 0, f 1, f 2, f 3, f 4, f 5, f 6, f 7, f 8⟩
def V9.at (v : V9) (k : Nat) : Int := [v.a, v.b, v.c, v.d, v.e, v.f, v.g, v.h, v.i].getD k 0
def upN (f : Nat → Int) (k : Nat) (x : Int) : Nat → Int := fun i => if i = k then x else f i
theorem V9.enc_at (v : V9) {k : Nat} (h : k < 9) : v.enc[k]? = some (.int .i64 (v.at k)) := by
 rcases (by omega : k = 0 ∨ k = 1 ∨ k = 2 ∨ k = 3 ∨ k = 4 ∨ k = 5 ∨ k = 6 ∨ k = 7 ∨ k = 8) with rfl | rfl | rfl | rfl | rfl | rfl | rfl | rfl | rfl <;> rfl
theorem V9.tab_at (f : Nat → Int) {k : Nat} (h : k < 9) : (V9.tab f).at k = f k := by
 rcases (by omega : k = 0 ∨ k = 1 ∨ k = 2 ∨ k = 3 ∨ k = 4 ∨ k = 5 ∨ k = 6 ∨ k = 7 ∨ k = 8) with rfl | rfl | rfl | rfl | rfl | rfl | rfl | rfl | rfl <;> rfl
theorem V9.at_tab (v : V9) : V9.tab v.at = v := rfl
theorem V9.tab_set (f : Nat → Int) {k : Nat} (h : k < 9) (x : Int) : (V9.tab f).enc.set k (.int .i64 x) = (V9.tab (upN f k x)).enc := by
 rcases (by omega : k = 0 ∨ k = 1 ∨ k = 2 ∨ k = 3 ∨ k = 4 ∨ k = 5 ∨ k = 6 ∨ k = 7 ∨ k = 8) with rfl | rfl | rfl | rfl | rfl | rfl | rfl | rfl | rfl <;> rfl
theorem V9.tab_congr {f g : Nat → Int} (h : ∀ i, i < 9 → f i = g i) : V9.tab f = V9.tab g := by
 unfold V9.tab
 rw [h 0 (by decide), h 1 (by decide), h 2 (by decide), h 3 (by decide), h 4 (by decide), h 5 (by decide), h 6 (by decide), h 7 (by decide), h 8 (by decide)]
def V9.put (v : V9) (k : Nat) (x : Int) : V9 := V9.tab (upN v.at k x)
theorem V9.enc_put (v : V9) {k : Nat} (h : k < 9) (x : Int) : v.enc.set k (.int .i64 x) = (v.put k x).enc := V9.tab_set v.at h x
def mergeK (a b : V9) (k : Nat) : V9 := V9.tab fun i => if i < k then mx (a.at i) (b.at i) else a.at i
def merge2 (a b : V9) : V9 := mergeK a b 9
theorem mergeK_0 (a b : V9) : mergeK a b 0 = a := by unfold mergeK; exact (V9.tab_congr fun i _ => if_neg (Nat.not_lt_zero _)).trans a.at_tab
theorem mergeK_at (a b : V9) {k : Nat} (h : k < 9) : (mergeK a b k).at k = a.at k := by unfold mergeK; rw [V9.tab_at _ h]; exact if_neg (Nat.lt_irrefl _)
theorem mergeK_put (a b : V9) {k : Nat} (h : k < 9) : (mergeK a b k).put k (mx (a.at k) (b.at k)) = mergeK a b (k + 1) := by
 unfold V9.put
 show V9.tab _ = V9.tab _
 refine V9.tab_congr fun i hi => ?_
 unfold upN mergeK
 by_cases e : i = k
 ·subst e; rw [if_pos rfl, if_pos (by omega)]
 ·rw [if_neg e, V9.tab_at _ hi]
  by_cases h2 : i < k
  ·rw [if_pos h2, if_pos (by omega)]
  ·rw [if_neg h2, if_neg (by omega)]
structure V3 where
 (a b c : Int)
 deriving DecidableEq
def V3.enc (v : V3) : List Value := [.int .i64 v.a, .int .i64 v.b, .int .i64 v.c]
def V3.z : V3 := ⟨0, 0, 0⟩
def V3.at (v : V3) (k : Nat) : Int := [v.a, v.b, v.c].getD k 0
def V3.put (v : V3) (k : Nat) (x : Int) : V3 := match k with
 | 0 => ⟨x, v.b, v.c⟩
 | 1 => ⟨v.a, x, v.c⟩
 | 2 => ⟨v.a, v.b, x⟩
 | _ => v
theorem V3.enc_at (v : V3) {k : Nat} (h : k < 3) : v.enc[k]? = some (.int .i64 (v.at k)) := by
 rcases (by omega : k = 0 ∨ k = 1 ∨ k = 2) with rfl | rfl | rfl <;> rfl
theorem V3.enc_put (v : V3) {k : Nat} (h : k < 3) (x : Int) : v.enc.set k (.int .i64 x) = (v.put k x).enc := by
 rcases (by omega : k = 0 ∨ k = 1 ∨ k = 2) with rfl | rfl | rfl <;> rfl
abbrev ChainD (dc rg : Int) : Prop := 0 ≤ dc ∧ dc < 3 ∧ 0 ≤ rg ∧ rg < 3
def colStep (rg : Int) (c : V3) (e : Ent) : V3 := if e.rg = rg ∧ ChainD e.dc rg then c.put e.dc.toNat (mx (c.at e.dc.toNat) e.sq) else c
def colF (rg : Int) (es : List Ent) : V3 := es.foldl (colStep rg) V3.z
theorem colF_snoc (rg : Int) (es : List Ent) (e : Ent) : colF rg (es ++ [e]) = colStep rg (colF rg es) e := by unfold colF; rw [foldl_append]; rfl
def partV (v : V9) (rg : Int) : V3 := if 0 ≤ rg ∧ rg < 3 then ⟨v.at rg.toNat, v.at (3 + rg.toNat), v.at (6 + rg.toNat)⟩ else V3.z
abbrev CovC (a b : V3) : Prop := b.a ≤ a.a ∧ b.b ≤ a.b ∧ b.c ≤ a.c
def withD (v : V9) (dc rg sq : Int) : V9 := if ChainD dc rg then v.put (dc.toNat * 3 + rg.toNat) (mx (v.at (dc.toNat * 3 + rg.toNat)) sq) else v
def mergeV (vs : List V9) : V9 := vs.foldl merge2 V9.z
def pastM (es : List Ent) : V9 := es.foldl (fun o e => mergeV [o, e.dp]) V9.z
def pastV (es : List Ent) : V9 := es.foldl (fun o e => withD o e.dc e.rg e.sq) (pastM es)
abbrev MC : Int := 1099511627776
abbrev RightV (v : V9) : Prop := ∀ i, i < 9 → 0 ≤ v.at i ∧ v.at i ≤ MC
abbrev RightS (ct dc rg : Int) : Prop := 1 ≤ ct ∧ ct ≤ MC ∧ 0 ≤ dc ∧ dc < 3 ∧ 0 ≤ rg ∧ rg < 3
structure EntR (e : Ent) : Prop where
 ch : ChainD e.dc e.rg
 sq : 1 ≤ e.sq ∧ e.sq ≤ MC
 st : RightS e.ct e.sd e.sr
 sd : e.sd = e.dc
 sr : e.sr = e.rg
 key : 1 ≤ e.key.size ∧ e.key.size ≤ 16
 val : e.val.size ≤ 32
 dead : e.dead = true → e.val = ByteArray.empty
 dp : RightV e.dp
 own : e.dp.at (e.dc.toNat * 3 + e.rg.toNat) = e.sq - 1
 cl : 0 ≤ e.cl ∧ e.cl < 4
 op : 1 ≤ e.op ∧ e.op ≤ MC
instance (v : V9) : Decidable (RightV v) := Nat.decidableBallLT 9 fun i _ => 0 ≤ v.at i ∧ v.at i ≤ MC
instance (e : Ent) : Decidable (EntR e) := decidable_of_iff (ChainD e.dc e.rg ∧ (1 ≤ e.sq ∧ e.sq ≤ MC) ∧ RightS e.ct e.sd e.sr ∧ e.sd = e.dc ∧ e.sr = e.rg ∧ (1 ≤ e.key.size ∧ e.key.size ≤ 16) ∧ e.val.size ≤ 32 ∧
  (e.dead = true → e.val = ByteArray.empty) ∧ RightV e.dp ∧ e.dp.at (e.dc.toNat * 3 + e.rg.toNat) = e.sq - 1 ∧ (0 ≤ e.cl ∧ e.cl < 4) ∧ (1 ≤ e.op ∧ e.op ≤ MC))
 ⟨fun ⟨a, b, c, d, e, f, g, h, i, j, k, l⟩ => ⟨a, b, c, d, e, f, g, h, i, j, k, l⟩, fun ⟨a, b, c, d, e, f, g, h, i, j, k, l⟩ => ⟨a, b, c, d, e, f, g, h, i, j, k, l⟩⟩
def mostI (xs : List Int) : Int := xs.foldl mx 0
def nextCt (xs : List Int) : Int := (if MC < mostI xs then MC else mostI xs) + 1
theorem rfold_fine {vs : List Value} : ∀ {its : List It} {C : Cd}, (∀ it ∈ its, ∃ u e, vs[it.o]? = some u ∧ encI it u = some e ∧ longI it u = false) →
  (its.foldl (wstep vs) C).arg = C.arg ∧ (its.foldl (wstep vs) C).long = C.long := by
 intro its
 induction its with
 | nil => intro C _; exact ⟨rfl, rfl⟩
 | cons it r ih =>
  intro C h
  obtain ⟨u, e, h1, h2, h3⟩ := h it (mem_cons_self ..)
  obtain ⟨h4, h5⟩ := ih (C := wstep vs C it) (fun x hx => h x (mem_cons_of_mem _ hx))
  rw [foldl_cons, h4, h5]
  unfold wstep
  rw [h1]
  simp [h2, h3]
theorem enc_num {o : Nat} {x : Int} (h1 : 0 ≤ x) (h2 : x ≤ MC) : encI (.num o) (.int .i64 x) = some (encN x.toNat) := by
 rw [encI_num, if_neg (by simp only [MC] at h2; omega)]
theorem code_fine {r : Rec} (hk : r.known = true) (hb : r.bare = r) (key : ∀ it ∈ Rec.its r.k, ∃ u e, r.enc[it.o]? = some u ∧ encI it u = some e ∧ longI it u = false) : r.code = 0 := by
 obtain ⟨h1, h2⟩ := rfold_fine (C := {}) key
 have h3 : r.w.arg = ((((Rec.its r.k).foldl (wstep r.enc) {}).arg || !r.known) || !decide (r.bare = r)) := rfl
 have h4 : r.w.long = ((Rec.its r.k).foldl (wstep r.enc) {}).long := rfl
 rw [h1, hk, hb, decide_eq_true rfl] at h3
 rw [h2] at h4
 unfold Rec.code frRes
 rw [if_neg (by rw [h3]; decide), if_neg (by rw [h4]; decide)]
def recW (e : Ent) : Rec := ⟨1, e, Cfg.z, 0⟩
def recN (c : Cfg) (b : Int) : Rec := ⟨2, Ent.z, c, b⟩
theorem recW_code {e : Ent} (h : EntR e) : (recW e).code = 0 := by
 refine code_fine rfl rfl fun it hit => ?_
 rw [show Rec.its (recW e).k = [.num 0, .num 1, .num 2, .num 3, .num 4, .num 5, .num 6, .txt 7 16, .txt 8 32, .tru 9, .num 10, .num 11, .num 12, .num 13, .num 14, .num 15, .num 16, .num 17, .num 18, .num 19, .num 20] from rfl] at hit
 simp only [mem_cons, not_mem_nil, or_false] at hit
 rcases hit with rfl | rfl | rfl | rfl | rfl | rfl | rfl | rfl | rfl | rfl | rfl | rfl | rfl | rfl | rfl | rfl | rfl | rfl | rfl | rfl | rfl
 ·exact ⟨_, _, rfl, enc_num (x := 1) (by decide) (by decide), rfl⟩
 ·exact ⟨_, _, rfl, enc_num (x := e.dc) (h.ch.1) (by have := h.ch.2.1; simp only [MC]; omega), rfl⟩
 ·exact ⟨_, _, rfl, enc_num (x := e.rg) (h.ch.2.2.1) (by have := h.ch.2.2.2; simp only [MC]; omega), rfl⟩
 ·exact ⟨_, _, rfl, enc_num (x := e.sq) (by have := h.sq.1; omega) (h.sq.2), rfl⟩
 ·exact ⟨_, _, rfl, enc_num (x := e.ct) (by have := h.st.1; omega) (h.st.2.1), rfl⟩
 ·exact ⟨_, _, rfl, enc_num (x := e.sd) (h.st.2.2.1) (by have := h.st.2.2.2.1; simp only [MC]; omega), rfl⟩
 ·exact ⟨_, _, rfl, enc_num (x := e.sr) (h.st.2.2.2.2.1) (by have := h.st.2.2.2.2.2; simp only [MC]; omega), rfl⟩
 ·exact ⟨_, _, rfl, rfl, by show decide (16 < e.key.data.toList.length) = false; rw [show e.key.data.toList.length = e.key.size from Array.length_toList]; exact decide_eq_false (by have := h.key.2; omega)⟩
 ·exact ⟨_, _, rfl, rfl, by show decide (32 < e.val.data.toList.length) = false; rw [show e.val.data.toList.length = e.val.size from Array.length_toList]; exact decide_eq_false (by have := h.val; omega)⟩
 ·exact ⟨_, _, rfl, rfl, rfl⟩
 ·exact ⟨_, _, rfl, enc_num (x := e.dp.at 0) ((h.dp 0 (by decide)).1) ((h.dp 0 (by decide)).2), rfl⟩
 ·exact ⟨_, _, rfl, enc_num (x := e.dp.at 1) ((h.dp 1 (by decide)).1) ((h.dp 1 (by decide)).2), rfl⟩
 ·exact ⟨_, _, rfl, enc_num (x := e.dp.at 2) ((h.dp 2 (by decide)).1) ((h.dp 2 (by decide)).2), rfl⟩
 ·exact ⟨_, _, rfl, enc_num (x := e.dp.at 3) ((h.dp 3 (by decide)).1) ((h.dp 3 (by decide)).2), rfl⟩
 ·exact ⟨_, _, rfl, enc_num (x := e.dp.at 4) ((h.dp 4 (by decide)).1) ((h.dp 4 (by decide)).2), rfl⟩
 ·exact ⟨_, _, rfl, enc_num (x := e.dp.at 5) ((h.dp 5 (by decide)).1) ((h.dp 5 (by decide)).2), rfl⟩
 ·exact ⟨_, _, rfl, enc_num (x := e.dp.at 6) ((h.dp 6 (by decide)).1) ((h.dp 6 (by decide)).2), rfl⟩
 ·exact ⟨_, _, rfl, enc_num (x := e.dp.at 7) ((h.dp 7 (by decide)).1) ((h.dp 7 (by decide)).2), rfl⟩
 ·exact ⟨_, _, rfl, enc_num (x := e.dp.at 8) ((h.dp 8 (by decide)).1) ((h.dp 8 (by decide)).2), rfl⟩
 ·exact ⟨_, _, rfl, enc_num (x := e.cl) (h.cl.1) (by have := h.cl.2; simp only [MC]; omega), rfl⟩
 ·exact ⟨_, _, rfl, enc_num (x := e.op) (by have := h.op.1; omega) (h.op.2), rfl⟩
theorem recN_code {c : Ch} (ok : ChOk c) {b : Int} (b0 : 0 ≤ b) (b1 : b ≤ MC) : (recN c.cfg b).code = 0 := by
 have e1 := ok.e1; have e2 := ok.e2; have h4 := ok.l4
 have hz : ∀ k, (0 ≤ (c.ms.getD k Mem.z).nd ∧ (c.ms.getD k Mem.z).nd ≤ MC) ∧ 0 ≤ (c.ms.getD k Mem.z).sn ∧ (c.ms.getD k Mem.z).sn ≤ MC := fun k => by
  rw [getD_eq_getElem?_getD]
  cases h : c.ms[k]? with
  | none => exact ⟨⟨by decide, by decide⟩, by decide, by decide⟩
  | some m =>
   have := ok.rg m (mem_append_left _ (mem_of_getElem? h))
   simp only [MC, Option.getD_some]; omega
 have hl : (0 ≤ (c.ln.getD Mem.z).nd ∧ (c.ln.getD Mem.z).nd ≤ MC) ∧ 0 ≤ (c.ln.getD Mem.z).sn ∧ (c.ln.getD Mem.z).sn ≤ MC := by
  cases h : c.ln with
  | none => exact ⟨⟨by decide, by decide⟩, by decide, by decide⟩
  | some m =>
   have := ok.rg m (mem_append_right _ (by rw [h]; simp))
   simp only [MC, Option.getD_some]; omega
 refine code_fine rfl rfl fun it hit => ?_
 rw [show Rec.its (recN c.cfg b).k = [.num 0, .num 21, .num 22, .num 23, .num 24, .num 25, .num 26, .num 27, .num 28, .num 29, .num 30, .tru 31, .num 32, .num 33, .num 34] from rfl] at hit
 simp only [mem_cons, not_mem_nil, or_false] at hit
 rcases hit with rfl | rfl | rfl | rfl | rfl | rfl | rfl | rfl | rfl | rfl | rfl | rfl | rfl | rfl | rfl
 ·exact ⟨_, _, rfl, enc_num (x := 2) (by decide) (by decide), rfl⟩
 ·exact ⟨_, _, rfl, enc_num (x := c.ep) (by omega) (by simp only [MC]; omega), rfl⟩
 ·exact ⟨_, _, rfl, enc_num (x := (c.ms.length : Int)) (by omega) (by simp only [MC]; omega), rfl⟩
 ·exact ⟨_, _, rfl, enc_num (hz 0).1.1 (hz 0).1.2, rfl⟩
 ·exact ⟨_, _, rfl, enc_num (hz 0).2.1 (hz 0).2.2, rfl⟩
 ·exact ⟨_, _, rfl, enc_num (hz 1).1.1 (hz 1).1.2, rfl⟩
 ·exact ⟨_, _, rfl, enc_num (hz 1).2.1 (hz 1).2.2, rfl⟩
 ·exact ⟨_, _, rfl, enc_num (hz 2).1.1 (hz 2).1.2, rfl⟩
 ·exact ⟨_, _, rfl, enc_num (hz 2).2.1 (hz 2).2.2, rfl⟩
 ·exact ⟨_, _, rfl, enc_num (hz 3).1.1 (hz 3).1.2, rfl⟩
 ·exact ⟨_, _, rfl, enc_num (hz 3).2.1 (hz 3).2.2, rfl⟩
 ·exact ⟨_, _, rfl, rfl, rfl⟩
 ·exact ⟨_, _, rfl, enc_num hl.1.1 hl.1.2, rfl⟩
 ·exact ⟨_, _, rfl, enc_num hl.2.1 hl.2.2, rfl⟩
 ·exact ⟨_, _, rfl, enc_num b0 b1, rfl⟩
structure CS where
 (dc rg nd : Int)
 co : Option Ch
 (sn bs : Int)
 lg : List Ent
 (du st ak ow : Int)
 su : Bool
def CS.new (dc rg nd : Int) : CS := ⟨dc, rg, nd, none, 0, 0, [], 0, 0, 0, 0, false⟩
def CS.len (s : CS) : Int := (s.lg.length : Int)
structure CsOk (s : CS) : Prop where
 co : ChO s.co
 bs : 0 ≤ s.bs ∧ s.bs ≤ s.du
 du : 0 ≤ s.du ∧ s.du ≤ s.len
 len : s.lg.length ≤ 256
 es : ∀ e ∈ s.lg, EntR e
theorem CsOk.new (dc rg nd : Int) : CsOk (CS.new dc rg nd) := ⟨ChO.none, ⟨Int.le_refl 0, Int.le_refl 0⟩, ⟨Int.le_refl 0, Int.le_refl 0⟩, Nat.zero_le _, fun e h => by cases h⟩
abbrev CS.last (s : CS) : Prop := 0 ≤ s.nd ∧ lastO s.co = s.nd
abbrev CS.head (s : CS) : Prop := 0 ≤ s.nd ∧ headO s.co = s.nd
def CS.settle (s : CS) : CS :=
 if s.last then (if (cfO s.co).jo = false then { s with su := true, st := s.du } else if s.su = true then { s with st := mx s.st s.bs } else s) else s
theorem settle_same (s : CS) : s.settle.dc = s.dc ∧ s.settle.rg = s.rg ∧ s.settle.nd = s.nd ∧ s.settle.co = s.co ∧ s.settle.sn = s.sn ∧ s.settle.bs = s.bs ∧ s.settle.lg = s.lg ∧ s.settle.du = s.du ∧ s.settle.ak = s.ak ∧ s.settle.ow = s.ow := by
 unfold CS.settle
 split
 ·split
  ·simp
  ·split <;> simp
 ·simp
theorem CsOk.settle {s : CS} (ok : CsOk s) : CsOk s.settle := by
 obtain ⟨-, -, -, h4, -, h6, h7, h8, -, -⟩ := settle_same s
 have hl : s.settle.len = s.len := by unfold CS.len; rw [h7]
 exact ⟨by rw [h4]; exact ok.co, by rw [h6, h8]; exact ok.bs, by rw [h8, hl]; exact ok.du, by rw [h7]; exact ok.len, by rw [h7]; exact ok.es⟩
def CS.enter0 (s : CS) (x : Cfg) : CS :=
 if sinceO (some (chOf x)) s.nd ≠ 0 ∧ sinceO (some (chOf x)) s.nd ≠ s.sn then ⟨s.dc, s.rg, s.nd, some (chOf x), sinceO (some (chOf x)) s.nd, 0, [], 0, 0, 0, 0, true⟩
 else ⟨s.dc, s.rg, s.nd, some (chOf x), s.sn, s.len, s.lg, s.len, s.st, 0, 0, true⟩
def CS.resets (s : CS) (x : Cfg) : Bool := decide (sinceO (some (chOf x)) s.nd ≠ 0 ∧ sinceO (some (chOf x)) s.nd ≠ s.sn)
def CS.enter (s : CS) (x : Cfg) : (Bool × Int) × CS :=
 if ¬ RightC x then ((false, 1), s) else if x.ep ≤ (cfO s.co).ep then ((false, 80), s) else ((s.resets x, 0), (s.enter0 x).settle)
theorem CsOk.enter0 {s : CS} (ok : CsOk s) {x : Cfg} (h : RightC x) : CsOk (s.enter0 x) := by
 unfold CS.enter0
 split
 ·exact ⟨ChO.some h.2.2, ⟨Int.le_refl 0, Int.le_refl 0⟩, ⟨Int.le_refl 0, Int.le_refl 0⟩, Nat.zero_le _, fun e h => by cases h⟩
 ·exact ⟨ChO.some h.2.2, ⟨Int.natCast_nonneg _, Int.le_refl _⟩, ⟨Int.natCast_nonneg _, Int.le_refl _⟩, ok.len, ok.es⟩
theorem CsOk.enter {s : CS} (ok : CsOk s) (x : Cfg) : CsOk (s.enter x).2 := by
 unfold CS.enter
 split
 ·exact ok
 ·rename_i h
  split
  ·exact ok
  ·exact (ok.enter0 (Classical.not_not.1 h)).settle
def foundE (es : List Ent) (cl op : Int) : Int := match es.findIdx? (fun e => decide (e.cl = cl ∧ e.op = op)) with
 | none => 0
 | some i => (i : Int) + 1
def CS.push (s : CS) (e : Ent) : CS := { s with lg := s.lg ++ [e] }
theorem CsOk.push {s : CS} (ok : CsOk s) (hl : s.lg.length < 256) {e : Ent} (he : EntR e) : CsOk (s.push e) := by
 have h : (s.push e).len = s.len + 1 := by unfold CS.push CS.len; simp
 refine ⟨ok.co, ok.bs, ⟨ok.du.1, by have := ok.du.2; rw [h]; show s.du ≤ _; omega⟩, by unfold CS.push; simp; omega, fun x hx => ?_⟩
 rcases mem_append.1 hx with hx | hx
 ·exact ok.es x hx
 ·rw [mem_singleton.1 hx]; exact he
def CS.entry (s : CS) (key val : ByteArray) (dead : Bool) (deps : V9) (clock cl op : Int) : Ent :=
 ⟨s.dc, s.rg, (colF s.rg s.lg).at s.dc.toNat + 1, nextCt (clock :: s.lg.map (·.ct)), s.dc, s.rg, key, val, dead, mergeV [deps, pastV s.lg], cl, op⟩
abbrev CS.covers (s : CS) (deps : V9) : Prop := CovC (colF s.rg s.lg) (partV deps s.rg)
abbrev CS.nextOk (s : CS) (clock : Int) : Prop := RightS (nextCt (clock :: s.lg.map (·.ct))) s.dc s.rg
def CS.putS (s : CS) (key val : ByteArray) (dead : Bool) (deps : V9) (clock cl op : Int) : (Int × Int) × CS :=
 if ¬ s.head then ((0, 90), s)
 else if 0 < foundE s.lg cl op then ((foundE s.lg cl op, 0), s)
 else if ¬ s.covers deps then ((0, 91), s)
 else if 256 ≤ s.len ∨ ¬ s.nextOk clock then ((0, 2), s)
 else if ¬ EntR (s.entry key val dead deps clock cl op) then ((0, 1), s)
 else ((s.len + 1, 0), (s.push (s.entry key val dead deps clock cl op)).settle)
def CS.inject (s : CS) (e : Ent) : Int × CS :=
 if ¬ s.head then (90, s)
 else if ¬ EntR e ∨ e.rg ≠ s.rg ∨ e.dc = s.dc then (1, s)
 else if e.sq ≤ (colF s.rg s.lg).at e.dc.toNat then (80, s)
 else if e.sq > (colF s.rg s.lg).at e.dc.toNat + 1 then (91, s)
 else if ¬ s.covers e.dp then (91, s)
 else if 256 ≤ s.len then (2, s)
 else (0, (s.push e).settle)
abbrev CS.takes (s : CS) (from_ ep ix : Int) (e : Ent) : Prop := ep = (cfO s.co).ep ∧ 0 ≤ from_ ∧ from_ = aheadO s.co s.nd ∧ ix = s.len + 1 ∧ EntR e ∧ s.len < 256
def CS.take (s : CS) (from_ ep ix : Int) (e : Ent) : Bool × CS :=
 if s.takes from_ ep ix e then (true, (s.push e).settle) else (false, s)
def CS.sync (s : CS) : CS := ({ s with du := s.len } : CS).settle
def mn (i j : Int) : Int := if j < i then j else i
def CS.heard0 (s : CS) (from_ d t : Int) : CS :=
 if fullO s.co from_ = true then { s with ak := mx s.ak d, st := mx s.st t }
 else if s.su = true ∨ s.ow ≤ d then { s with ak := mx s.ak d, su := true, st := mx (mx s.st s.bs) d }
 else { s with ak := mx s.ak d }
def CS.heard (s : CS) (from_ ep du st : Int) : Bool × CS :=
 if ep = (cfO s.co).ep ∧ 0 ≤ from_ ∧ from_ = behindO s.co s.nd then (true, (s.heard0 from_ (mn du s.du) (mn st s.du)).settle) else (false, s)
def CS.restore0 (dc rg nd : Int) (x : Cfg) (sn bs : Int) (es : List Ent) : CS :=
 ⟨dc, rg, nd, if RightC x then some (chOf x) else none, sn, mx 0 (mn bs (es.length : Int)), es, (es.length : Int), 0, 0, (es.length : Int), false⟩
def CS.restore (dc rg nd : Int) (x : Cfg) (sn bs : Int) (es : List Ent) : CS := (CS.restore0 dc rg nd x sn bs es).settle
theorem CsOk.restore {dc rg nd : Int} {x : Cfg} {sn bs : Int} {es : List Ent} (hl : es.length ≤ 256) (he : ∀ e ∈ es, EntR e) : CsOk (CS.restore dc rg nd x sn bs es) := by
 refine CsOk.settle ⟨fun c hc => ?_, ?_, ⟨Int.natCast_nonneg _, Int.le_refl _⟩, hl, he⟩
 ·unfold CS.restore0 at hc
  simp only [] at hc
  split at hc
  ·rename_i h; cases hc; exact h.2.2
  ·cases hc
 ·show 0 ≤ mx 0 (mn bs (es.length : Int)) ∧ mx 0 (mn bs (es.length : Int)) ≤ (es.length : Int)
  unfold mx mn; split <;> split <;> omega
theorem CsOk.put {s : CS} (ok : CsOk s) (key val : ByteArray) (dead : Bool) (deps : V9) (clock cl op : Int) : CsOk (s.putS key val dead deps clock cl op).2 := by
 unfold CS.putS
 repeat' split
 all_goals first | exact ok | skip
 rename_i h1 h2
 exact (ok.push (by simp only [not_or, CS.len] at h1; omega) (Classical.not_not.1 h2)).settle
theorem CsOk.take {s : CS} (ok : CsOk s) (f ep ix : Int) (e : Ent) : CsOk (s.take f ep ix e).2 := by
 unfold CS.take
 split
 ·rename_i h
  exact (ok.push (by have := h.2.2.2.2.2; simp only [CS.len] at this; omega) h.2.2.2.2.1).settle
 ·exact ok
theorem heard0_same (s : CS) (f d t : Int) : (s.heard0 f d t).dc = s.dc ∧ (s.heard0 f d t).rg = s.rg ∧ (s.heard0 f d t).nd = s.nd ∧ (s.heard0 f d t).co = s.co ∧ (s.heard0 f d t).sn = s.sn ∧ (s.heard0 f d t).bs = s.bs ∧ (s.heard0 f d t).lg = s.lg ∧ (s.heard0 f d t).du = s.du ∧ (s.heard0 f d t).ow = s.ow := by
 unfold CS.heard0
 repeat' split
 all_goals simp
theorem CsOk.heard {s : CS} (ok : CsOk s) (f ep du st : Int) : CsOk (s.heard f ep du st).2 := by
 unfold CS.heard
 split
 ·obtain ⟨-, -, -, h4, -, h6, h7, h8, -⟩ := heard0_same s f (mn du s.du) (mn st s.du)
  have hl : (s.heard0 f (mn du s.du) (mn st s.du)).len = s.len := by unfold CS.len; rw [h7]
  exact CsOk.settle ⟨by rw [h4]; exact ok.co, by rw [h6, h8]; exact ok.bs, by rw [h8, hl]; exact ok.du, by rw [h7]; exact ok.len, by rw [h7]; exact ok.es⟩
 ·exact ok
structure Rb where
 x : Cfg
 (sn bs : Int)
 es : List Ent
def Rb.z : Rb := ⟨Cfg.z, 0, 0, []⟩
def rbStep (nd : Int) (f : Rb) (r : Rec) : Rb :=
 if r.k = 1 then ⟨f.x, f.sn, f.bs, f.es ++ [r.e]⟩
 else ⟨r.c, if 0 < sinceO (some (chOf r.c)) nd then sinceO (some (chOf r.c)) nd else f.sn, r.base, f.es⟩
def rbF (nd : Int) (rs : List Rec) : Rb := rs.foldl (rbStep nd) Rb.z
theorem rbF_app (nd : Int) (a b : List Rec) : rbF nd (a ++ b) = b.foldl (rbStep nd) (rbF nd a) := by unfold rbF; rw [foldl_append]
theorem rbF_snoc (nd : Int) (a : List Rec) (r : Rec) : rbF nd (a ++ [r]) = rbStep nd (rbF nd a) r := by rw [rbF_app]; rfl
theorem rb_ents (nd : Int) : ∀ (rs : List Rec) (f : Rb), (∀ r ∈ rs, r.k = 1) → rs.foldl (rbStep nd) f = ⟨f.x, f.sn, f.bs, f.es ++ rs.map (·.e)⟩
 | [], f, _ => by simp
 | r :: t, f, h => by
  rw [foldl_cons, rb_ents nd t _ fun x hx => h x (mem_cons_of_mem _ hx)]
  unfold rbStep
  rw [if_pos (h r (mem_cons_self ..))]
  simp
theorem outF_app_ents (a b : List Rec) (h : ∀ r ∈ b, r.k = 1) : outF (a ++ b) = outF a ++ b := by
 induction b generalizing a with
 | nil => simp
 | cons r t ih =>
  have h1 := h r (mem_cons_self ..)
  rw [show a ++ r :: t = (a ++ [r]) ++ t by simp, ih _ fun x hx => h x (mem_cons_of_mem _ hx), outF_snoc, if_neg (by omega)]
  simp
def RecOk (r : Rec) : Prop := r.k = 1 ∧ EntR r.e ∨ r.k = 2 ∧ RightC r.c ∨ r.k = 3
structure LgOk (l : List Lf) : Prop where
 ok : LOk l
 re : ∀ r ∈ recs l, RecOk r
 loose : ∀ r ∈ (recs l).drop (sumK l), r.k = 1
 top : sumK l ≤ (recs l).length
structure LTell (l : List Lf) (c : CS) : Prop where
 x : (rbF c.nd (outF (recs l))).x = cfO c.co
 sn : (rbF c.nd (outF (recs l))).sn = c.sn
 bs : (rbF c.nd (outF (recs l))).bs = c.bs
 es : (rbF c.nd (outF (recs l))).es = c.lg
 du : (recs l).length - sumK l ≤ c.lg.length - c.du.toNat
theorem roomB_at {l : List Lf} {n : Int} (h : roomB l n = true) : l.length < 63 ∧ ((dk l).used : Int) < 1048576 - n * 512 := by
 unfold roomB at h
 have := of_decide_eq_true h
 exact ⟨this.2.2.1, this.2.2.2⟩
theorem recs_sync (l : List Lf) : recs (lsync l) = recs l := by
 unfold recs lsync
 rw [map_map]
 rfl
theorem sumK_sync (l : List Lf) : sumK (lsync l) = (recs l).length := by
 induction l with
 | nil => rfl
 | cons f t ih =>
  have h1 : sumK (lsync (f :: t)) = f.rs.length + sumK (lsync t) := by unfold sumK lsync; simp [Lf.full]
  have h2 : (recs (f :: t)).length = f.rs.length + (recs t).length := by unfold recs; simp
  rw [h1, h2, ih]
theorem ladd_room {l : List Lf} (ok : LOk l) {n : Int} (hn : 1 ≤ n) (hrm : roomB l n = true) (hnum : lastN l < 1099511627776) {r : Rec} (hc : r.code = 0) :
  (ladd1 l r).2 = 0 ∧ recs (ladd1 l r).1 = recs l ++ [r] ∧ sumK (ladd1 l r).1 = sumK l ∧ lastN (ladd1 l r).1 ≤ lastN l + 1 := by
 obtain ⟨h1, h2⟩ := roomB_at hrm
 have hle := (Rec.good hc).fr_le
 unfold ladd1
 rw [if_neg (by simpa using hc)]
 rcases eq_nil_or_concat l with rfl | ⟨pre, f, rfl⟩
 ·exact ⟨rfl, rfl, rfl, show (0 : Int) ≤ 0 + 1 by decide⟩
 ·rw [concat_eq_append] at hnum h1 h2 ⊢
  simp only [List.getLast?_concat, dropLast_concat]
  rw [lastN_app] at hnum ⊢
  have hk : sumK (pre ++ [f]) = sumK pre + f.k := by unfold sumK; simp
  by_cases h4 : 4096 ≤ (bytes f.rs).length
  ·rw [if_pos h4, if_neg (by omega)]
   refine ⟨rfl, by rw [recs_app, recs_one], ?_, ?_⟩
   ·unfold sumK; simp
   ·rw [lastN_app]; exact Int.le_refl _
  ·rw [if_neg h4, if_neg (by omega)]
   refine ⟨rfl, by rw [recs_app, recs_app, recs_one, recs_one, append_assoc], ?_, ?_⟩
   ·unfold sumK; simp
   ·rw [lastN_app]; show f.n ≤ f.n + 1; omega
theorem ladd_1 {l : List Lf} {r : Rec} : ladd l [r] = ladd1 l r := by
 unfold ladd
 split
 ·rfl
 ·rename_i h
  unfold ladd
  exact Prod.ext rfl (by simpa using Eq.symm (Classical.not_not.1 h))
theorem lcut_room {l : List Lf} (ok : LOk l) (hrm : roomB l 2 = true) (hnum : lastN l + 1 < 1099511627776) (hlo : 0 ≤ lastN l) : lcut l = ([⟨lastN l + 1, [cutR], 1⟩], 0) := by
 obtain ⟨h1, h2⟩ := roomB_at hrm
 have hle := (Rec.good cutR_code).fr_le
 have he : (dk l).appE (lastN l + 1) cutR.fr.length = 0 := by
  unfold DkS.appE
  have h3 := ok.fs_len
  rw [if_neg (by omega), if_neg (by rw [h3]; omega)]
 unfold lcut
 rw [if_neg (by simpa using he)]
end Go.Proofs.YtejfahjgfedliaaGreat
