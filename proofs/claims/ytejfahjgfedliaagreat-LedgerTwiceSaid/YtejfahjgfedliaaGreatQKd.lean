/-
  Texts of one road, one behind the other.
-/
import Derived.Test.YtejfahjgfedliaaGreatQKa
import Derived.ProofKit
import Derived.SizedLaws
import Derived.ChangeCalls
import Derived.Deep.Slices
import Derived.OpenShut
import Derived.Test.YtejfahjgfedliaaGreatRows
import Derived.Test.YtejfahjgfedliaaGreatQKb
import Derived.Test.YtejfahjgfedliaaGreatQKc
set_option linter.unusedVariables false
set_option linter.unusedSimpArgs false
namespace Go.Sl
open Go List
def initHp (w : World) : Hp := w.heap.toList.zipIdx.map fun x => (x.2, x.1)
theorem initHp_mem {w : World} {b : Nat} {o : Obj} : (b, o) ∈ initHp w ↔ w.heap[b]? = some o := by
 unfold initHp
 rw [mem_map]
 constructor
 ·rintro ⟨⟨o', i⟩, hm, he⟩
  cases he
  have := mem_zipIdx hm
  simp at this
  obtain ⟨h1, h2⟩ := this
  rw [Array.getElem?_eq_getElem h1, h2]
 ·intro h
  refine ⟨(o, b), ?_, rfl⟩
  rw [mem_zipIdx_iff_getElem?]
  simpa using h
theorem initHp_on (w : World) : on w (initHp w) w := by
 refine ⟨Amb.refl w, ?_, fun b o h => initHp_mem.1 h⟩
 unfold initHp
 rw [map_map]
 have : (Prod.fst ∘ fun x : Obj × Nat => (x.2, x.1)) = Prod.snd := by funext x; rfl
 rw [this, zipIdx_map_snd]
 exact nodup_range'
theorem initHp_below {w w' : World} (h : on w (initHp w) w') : RowKit.Below w.heap.size w w' := by
 refine ⟨h.1.os, h.1.tape, h.1.output, h.1.size, fun k hk => ?_⟩
 have := h.2.2 k _ (initHp_mem.2 (Array.getElem?_eq_getElem hk))
 rw [this, Array.getElem?_eq_getElem hk]
theorem initHp_cell {w : World} {p : Addr} {u : Value} (h : w.cell? p = some u) {g w' : World} (ho : on g (initHp w) w') : w'.cell? p = some u := by
 unfold World.cell? at h ⊢
 cases hb : w.heap[p.block]? with
 | none => simp [hb] at h
 | some o =>
  rw [ho.2.2 _ _ (initHp_mem.2 hb)]
  rwa [hb] at h
def RsW {α : Type} [Enc α] (w : World) (xs : List α) (v : Value) : Prop :=
 ∃ a c, v = .slice a xs.length c ∧ xs.length ≤ c ∧ ∀ k y, xs[k]? = some y → ∃ b off, a = some ⟨b, off, none⟩ ∧ ∀ j u, (Enc.enc y)[j]? = some u → w.cell? ⟨b, off + (k * Enc.sz α + j), none⟩ = some u
theorem RsW.rs {α : Type} [Enc α] {w : World} {xs : List α} {v : Value} (h : RsW w xs v) : Rs xs v (initHp w) := by
 obtain ⟨a, c, e, le, f⟩ := h
 refine ⟨a, c, e, le, fun k y hk => ?_⟩
 obtain ⟨b, off, e1, e2⟩ := f k y hk
 exact ⟨b, off, e1, fun j u hu g w' ho => initHp_cell (e2 j u hu) ho⟩
def RdOk (P : Program) (t : Nat) (α : Type) [Enc α] (I : World → α → Prop) : Prop :=
 ∀ (H : Type) (enc : TypeId × Value → H) (w : World) (fuel : Nat) (cs : List Value) (x : DataW H × List MemPlace), DataW.trod enc P w 0 (fun _ => true) true fuel t cs = some x → (∀ l ∈ x.1.weights P t, l ≤ reachBytes) → ∃ y : α, cs = Enc.enc y ∧ I w y
def I64 (n : Int) : Prop := -9223372036854775808 ≤ n ∧ n ≤ 9223372036854775807
theorem rd_int {P : Program} {t : Nat} [ht : TU P t (.int .i64)] : RdOk P t Int (fun _ n => I64 n) := by
 intro H enc w fuel cs x h _
 obtain ⟨n, rfl, _, hw⟩ := DataW.trod_int ht.h h
 refine ⟨n, rfl, ?_⟩
 simp [Lit.wf, IntKind.min, IntKind.max, IntKind.signed, IntKind.bits] at hw
 exact hw
theorem rd_bool {P : Program} {t : Nat} [ht : TU P t .bool] : RdOk P t Bool (fun _ _ => True) := by
 intro H enc w fuel cs x h _
 obtain ⟨b, rfl, _⟩ := DataW.trod_bool ht.h h
 exact ⟨b, rfl, trivial⟩
theorem weights_slice {H : Type} {P : Program} {t e : Nat} [ht : TU P t (.slice e)] {elems spare : List (DataW H)} (h : ∀ l ∈ (DataW.slice elems spare).weights P t, l ≤ reachBytes) :
  elems.length * P.bytesOf e ≤ reachBytes ∧ ∀ d ∈ elems, ∀ l ∈ d.weights P e, l ≤ reachBytes := by
 simp only [DataW.weights, ht.h] at h
 constructor
 ·have := h _ (mem_cons_self)
  rw [Nat.add_mul] at this; omega
 ·intro d hd l hl
  refine h l (mem_cons_of_mem _ (mem_append_left _ ?_))
  clear h
  induction elems with
  | nil => cases hd
  | cons y r ih =>
   simp only [DataW.weightsAll]
   rcases mem_cons.1 hd with rfl | hd
   ·exact mem_append_left _ hl
   ·exact mem_append_right _ (ih hd)
theorem weights_each {H : Type} {P : Program} : ∀ {ts : List TypeId} {ds : List (DataW H)} {i : Nat} {t : TypeId} {d : DataW H}, (∀ l ∈ DataW.weightsEach P ts ds, l ≤ reachBytes) → ts[i]? = some t → ds[i]? = some d → ∀ l ∈ d.weights P t, l ≤ reachBytes
 | t :: ts, d :: ds, 0, _, _, h, h1, h2, l, hl => by
  cases h1; cases h2
  exact h l (by simp only [DataW.weightsEach]; exact mem_append_left _ hl)
 | t :: ts, d :: ds, i + 1, _, _, h, h1, h2, l, hl => weights_each (ts := ts) (ds := ds) (i := i) (fun l hl => h l (by simp only [DataW.weightsEach]; exact mem_append_right _ hl)) (by simpa using h1) (by simpa using h2) l hl
 | [], _, _, _, _, _, h1, _, _, _ => by cases h1
 | _ :: _, [], _, _, _, _, _, h2, _, _ => by cases h2
theorem rd_slice {P : Program} {t e : Nat} {α : Type} [E : Enc α] {I : World → α → Prop} [ht : TU P t (.slice e)] (hsz : P.cellsOf e = Enc.sz α) (he : RdOk P e α I) {H : Type} {enc : TypeId × Value → H} {w : World} {fuel : Nat} {v : Value} {x : DataW H × List MemPlace}
  (h : DataW.trod enc P w 0 (fun _ => true) true fuel t [v] = some x) (hwt : ∀ l ∈ x.1.weights P t, l ≤ reachBytes) :
  ∃ xs : List α, RsW w xs v ∧ (∀ y ∈ xs, I w y) ∧ xs.length * P.bytesOf e ≤ reachBytes := by
 rcases Deep.open_slice ht.h h with ⟨hc, rfl⟩ | ⟨a, len, cap, m, n, D, Pl, hc, _, hl, hm, hmm, rfl, hx⟩
 ·simp only [List.cons.injEq, and_true] at hc
  subst hc
  exact ⟨[], ⟨none, 0, rfl, Nat.le_refl _, (fun k y hk => by simp at hk)⟩, (fun y hy => by cases hy), by simp⟩
 ·simp only [List.cons.injEq, and_true] at hc
  subst hc
  simp only [if_true] at hmm
  obtain ⟨w1, w2⟩ := weights_slice hwt
  have key : ∀ i, i < len → ∃ y : α, w.cells? 0 (a.add (i * P.cellsOf e)) (P.cellsOf e) = some (Enc.enc y) ∧ I w y := fun i hi => by
   obtain ⟨cs', h1, h2⟩ := hx i (by omega)
   obtain ⟨y, rfl, hy⟩ := he H enc w n cs' _ h2 (w2 (D i) (mem_map.2 ⟨i, mem_range.2 hi, rfl⟩))
   exact ⟨y, h1, hy⟩
  have : ∃ xs : List α, xs.length = len ∧ ∀ i y, xs[i]? = some y → w.cells? 0 (a.add (i * P.cellsOf e)) (P.cellsOf e) = some (Enc.enc y) ∧ I w y := by
   clear w1 w2 hx hwt h hl hm hmm
   induction len with
   | zero => exact ⟨[], rfl, fun i y h => by simp at h⟩
   | succ k ih =>
    obtain ⟨xs, h1, h2⟩ := ih (fun i hi => key i (by omega))
    obtain ⟨y, h3⟩ := key k (by omega)
    refine ⟨xs ++ [y], by simp [h1], fun i z hz => ?_⟩
    rcases Nat.lt_or_ge i k with hlt | hge
    ·exact h2 i z (by rwa [List.getElem?_append_left (by omega)] at hz)
    ·rw [List.getElem?_append_right (by omega)] at hz
     have hi : i - xs.length = 0 := by
      rcases Nat.eq_zero_or_pos (i - xs.length) with h | h
      ·exact h
      ·rw [List.getElem?_eq_none (by simp; omega)] at hz; cases hz
     rw [hi] at hz
     cases hz
     rw [show i = k by omega]
     exact h3
  obtain ⟨xs, rfl, h2⟩ := this
  refine ⟨xs, ⟨some a, cap, rfl, hl, fun k y hk => ?_⟩, fun y hy => ?_, ?_⟩
  ·obtain ⟨h3, _⟩ := h2 k y hk
   rw [hsz] at h3
   obtain ⟨_, hlen, hcell⟩ := World.cells?_some h3
   obtain ⟨b, off, spot⟩ := a
   have hp := Enc.pos (α := α)
   have hlt := (List.getElem?_eq_some_iff.1 hk).1
   have hspot : spot = none := by
    obtain ⟨h4, _⟩ := h2 0 xs[0] (List.getElem?_eq_getElem (by omega))
    rw [hsz] at h4
    obtain ⟨_, hlen0, hcell0⟩ := World.cells?_some h4
    have h5 := hcell0 0 hp
    rw [List.getElem?_eq_getElem (by omega)] at h5
    have := World.cell?_spot h5
    simpa [Addr.add] using this
   subst hspot
   refine ⟨b, off, rfl, fun j u hu => ?_⟩
   have hj : j < Enc.sz α := by have := (List.getElem?_eq_some_iff.1 hu).1; rwa [Enc.len] at this
   have := hcell j hj
   rw [hu, add_none, add_none] at this
   rwa [Nat.add_assoc] at this
  ·obtain ⟨k, hk⟩ := mem_iff_getElem?.1 hy
   exact (h2 k y hk).2
  ·simpa using w1
section args
variable {H : Type} {enc : TypeId × Value → H} {P : Program} {W : World} {r : Reach} {base t e : Nat} {v : Value} {d : DataW H} {p : List MemPlace}
theorem arg_int [ht : TU P t (.int .i64)] (hv : Value.okWide P W r base t v) (h : DataW.Trod enc P W 0 (fun _ => true) true t v d p) : ∃ n, v = .int .i64 n ∧ I64 n := by
 obtain ⟨x, rfl, _, _, hw⟩ := ChangeShapes.open_int ht.h hv h
 refine ⟨x, rfl, ?_⟩
 simp [Lit.wf, IntKind.min, IntKind.max, IntKind.signed, IntKind.bits] at hw
 exact hw
theorem arg_slice {α : Type} [E : Enc α] {I : World → α → Prop} [ht : TU P t (.slice e)] (hsz : P.cellsOf e = Enc.sz α) (he : RdOk P e α I) (hv : Value.okWide P W r base t v) (h : DataW.Trod enc P W 0 (fun _ => true) true t v d p)
  (hwt : ∀ l ∈ d.weights P t, l ≤ reachBytes) : ∃ xs : List α, RsW W xs v ∧ (∀ y ∈ xs, I W y) ∧ xs.length * P.bytesOf e ≤ reachBytes := by
 obtain ⟨a, len, cap, rfl⟩ := WideShapes.okWide_slice ht.h hv
 obtain ⟨fuel, hf⟩ := h
 exact rd_slice (x := (d, p)) hsz he hf hwt
end args
theorem law_calls {P : Program} {f : FuncId} {args : List Value} {W : World} (h : Ct P f args [initHp W] (fun r H' => r = .bool true ∧ H' = [initHp W])) :
  Calls P f args.toArray W fun e W' => e = .returned (.bool true) ∧ RowKit.Below W.heap.size W W' :=
 (h.calls W [] W (by simpa using initHp_on W)).mono fun e W' ⟨v, H', he, ⟨h1, h2⟩, ho⟩ => by
  subst h1; subst h2
  exact ⟨he, initHp_below (by simpa using ho)⟩
theorem law_lifted {C : Checked} {os : Os} {f : FuncId} {fn : Func} {s : ChangeSpec} {H : Type} {enc : TypeId × Value → H} {tb : TypeId}
  (own : ownKnob C.prog.godebug = none) (started : os.Started) (noInit : C.prog.inits.idxOf? f = none) (hfn : C.prog.funcs[f]? = some fn)
  (witness : ∃ (w : World) (tape : Tape) (i : Input), w.os = os ∧ (w.forCall tape i).Shaped C.prog ∧ i.vars = [] ∧ Input.okWide C.prog (w.forCall tape i) .any w.heap.size f i ∧
   s.pre6 enc C.prog fn [] false (w.forCall tape i).memory i.args ∧ ({} : Assume).holds C.prog (lone (Frame.enter C.prog f i.args .normal) [] (w.forCall tape i)))
  (hlaid : laidOutB C.prog = true) (hpar0 : (fn.params.toList.all fun t => C.prog.readableRec t && Nat.blt t C.prog.types.size) = true)
  (hres : fn.resultTypes = #[tb]) (htb : C.prog.underlying tb = some .bool) (hvars : s.vars = [])
  (hspec : ∀ (ds : List (DataW H)), ds.length = fn.params.size → (s.fn H (ds ++ [])).results = [.lit (.bool true)] ∧ (s.fn H (ds ++ [])).args = ds ∧ (s.fn H (ds ++ [])).vars = [])
  (hrun : ∀ (W : World) (base : Nat) (args : Array Value) (ds : List (DataW H)) (p : List MemPlace), (∀ (j : Nat) t v, fn.params[j]? = some t → args[j]? = some v → Value.okWide C.prog W .any base t v) → DataW.TrodAll enc C.prog W 0 (fun _ => true) true fn.params.toList args.toList ds p →
   (∀ l ∈ DataW.weightsEach C.prog fn.params.toList ds, l ≤ reachBytes) → Calls C.prog f args W fun e W' => e = .returned (.bool true) ∧ RowKit.Below W.heap.size W W') :
  ReturnsInHanded {} C os f .any (s.pre6 enc C.prog fn [] false) (s.post enc C.prog fn false true false false) := by
 have hpar : ∀ t ∈ fn.params.toList, C.prog.readableRec t = true ∧ t < C.prog.types.size := fun t ht => by
  have := all_eq_true.1 hpar0 t ht
  simp only [Bool.and_eq_true] at this
  exact ⟨this.1, Nat.le_of_ble_eq_true this.2⟩
 refine returnsInHanded_of_change_sized own started noInit hfn witness ?_
 intro W base args ds gs before hval hW _ hsz _
 have hW' := hW
 obtain ⟨p, q, hA, hV, rfl, hfz, hnd⟩ := hW
 rw [hvars] at hV
 have hg : gs = [] ∧ q = [] := by
  cases gs with
  | nil => exact ⟨rfl, hV⟩
  | cons _ _ => exact hV.elim
 obtain ⟨rfl, rfl⟩ := hg
 have hvt : s.plain.varTypes C.prog = [] := by
  simp [ChangeSpec.plain, DataSpec.varTypes, hvars]
 have hwt : ∀ l ∈ DataW.weightsEach C.prog fn.params.toList ds, l ≤ reachBytes := by
  have h1 : (DataW.weightsEach C.prog (fn.params.toList ++ s.plain.varTypes C.prog) (ds ++ [])).all (· ≤ reachBytes) = true := hsz
  rw [hvt, append_nil, append_nil] at h1
  intro l hl
  simpa using all_eq_true.1 h1 l hl
 have hdl : ds.length = fn.params.size := by simpa using (trodAll_length hA).2
 obtain ⟨e1, e2, e3⟩ := hspec ds hdl
 refine (hrun W base args ds p hval hA hwt).mono fun e W' ⟨he, hb⟩ => ?_
 subst he
 have hargs : ∀ {ts : List TypeId} {vs : List Value} {ds : List (DataW H)} {p : List MemPlace}, (∀ t ∈ ts, C.prog.readableRec t = true ∧ t < C.prog.types.size) → DataW.TrodAll enc C.prog W 0 (fun _ => true) true ts vs ds p → (∀ x ∈ p, x.block < W.heap.size) →
   DataW.TrodAll enc C.prog W' 0 (fun b => decide (b < W.heap.size)) true ts vs ds p := by
  intro ts
  induction ts with
  | nil =>
   intro vs ds p _ h _
   cases vs <;> cases ds <;> first | exact h | exact h.elim
  | cons t ts ih =>
   intro vs ds p hp h hlt
   cases vs with
   | nil => exact h.elim
   | cons v vs =>
    cases ds with
    | nil => exact h.elim
    | cons d ds =>
     obtain ⟨p1, p2, h1, h2, rfl⟩ := h
     exact ⟨p1, p2, RowKit.Below.trod hlaid (hp t mem_cons_self).1 (hp t mem_cons_self).2 h1 hb (fun x hx => hlt x (mem_append_left _ hx)), ih (fun t ht => hp t (mem_cons_of_mem _ ht)) h2 (fun x hx => hlt x (mem_append_right _ hx)), rfl⟩
 have hlt : ∀ x ∈ p, x.block < W.heap.size := DataW.TrodAll.lt hA
 have hres' : fn.resultTypes.toList = [tb] := by rw [hres]
 have hres2 : fn.resultTypes.size = 1 := by rw [hres]; rfl
 refine ⟨_, rfl, ds, [], _, [], p, [], hW', ?_, ?_, ?_, hb.frame _, fun h => by cases h⟩
 ·rw [e1, hres', hres2]
  exact ⟨[], [], RowKit.shut_bool htb true, rfl, rfl⟩
 ·rw [e2]; exact hargs hpar hA hlt
 ·rw [hvars, e3]; rfl
end Go.Sl

namespace Go.Sl
open Go
section
variable {H : Type} {enc : TypeId × Value → H} {P : Program} {w : World} {t ft i off k : Nat} {ag : Bool} {cs : List Value} {v : Value}
def StOk {H : Type} (enc : TypeId × Value → H) (P : Program) (w : World) (t : Nat) (cs : List Value) : Prop :=
 ∃ (fuel : Nat) (x : DataW H × List MemPlace), DataW.trod enc P w 0 (fun _ => true) true fuel t cs = some x ∧ ∀ l ∈ x.1.weights P t, l ≤ reachBytes
theorem TL.cellsOf (h : TL P t k ag) : P.cellsOf t = k := by
 obtain ⟨s, _⟩ := h
 unfold Program.cellsOf
 rw [s]; rfl
theorem StOk.len [ft' : TFt P t i off ft] [tl : TL P t k ag] (h : StOk enc P w t cs) : cs.length = k := by
 obtain ⟨fuel, x, hx, _⟩ := h
 obtain ⟨fs, fd, hu, _⟩ := ft'.h
 obtain ⟨xs, n, _, _, hl, _⟩ := DataW.trod_struct hu hx
 rw [hl, tl.cellsOf]
theorem StOk.field (i : Nat) [ft' : TFt P t i off ft] [tl : TL P ft k ag] (h : StOk enc P w t cs) : StOk enc P w ft ((cs.drop off).take k) := by
 obtain ⟨fuel, x, hx, hw⟩ := h
 obtain ⟨fs, fd, hu, hf, rfl, rfl⟩ := ft'.h
 obtain ⟨xs, n, _, rfl, hl, hlen, hfs⟩ := DataW.trod_struct hu hx
 have h1 := hfs i fd hf
 have hi : i < xs.length := by rw [hlen]; exact (Array.getElem?_eq_some_iff.1 hf).1
 rw [List.getElem?_eq_getElem hi, tl.cellsOf] at h1
 refine ⟨n, xs[i], h1, ?_⟩
 simp only [DataW.weights, hu] at hw
 exact weights_each hw (i := i) (by rw [List.getElem?_map, Array.getElem?_toList, hf]; rfl) (by rw [List.getElem?_map, List.getElem?_eq_getElem hi]; rfl)
theorem StOk.rd {α : Type} [Enc α] {I : World → α → Prop} (hr : RdOk P t α I) (h : StOk enc P w t cs) : ∃ y : α, cs = Enc.enc y ∧ I w y := by
 obtain ⟨fuel, x, hx, hw⟩ := h
 exact hr H enc w fuel cs x hx hw
theorem StOk.int [ht : TU P t (.int .i64)] (h : StOk enc P w t cs) : ∃ n, cs = [.int .i64 n] ∧ I64 n := h.rd rd_int
theorem StOk.bool [ht : TU P t .bool] (h : StOk enc P w t cs) : ∃ b, cs = [.bool b] := let ⟨b, h1, _⟩ := h.rd rd_bool; ⟨b, h1⟩
theorem rd_of {α : Type} [Enc α] {I : World → α → Prop} (h : ∀ (H : Type) (enc : TypeId × Value → H) (w : World) (cs : List Value), StOk enc P w t cs → ∃ y : α, cs = Enc.enc y ∧ I w y) : RdOk P t α I :=
 fun H enc w fuel cs x hx hw => h H enc w cs ⟨fuel, x, hx, hw⟩
end
section args
variable {H : Type} {enc : TypeId × Value → H} {P : Program} {W : World} {r : Reach} {base t i off ft : Nat} {v : Value} {d : DataW H} {p : List MemPlace}
end args
end Go.Sl

namespace Go.Sl
open Go List
section
variable {H : Type} {enc : TypeId × Value → H} {P : Program} {w : World} {t e n k : Nat} {ag : Bool} {cs : List Value} {v : Value}
theorem StOk.string [ht : TU P t .string] (h : StOk enc P w t cs) : ∃ s : ByteArray, cs = [.string s] ∧ s.data.toList.length ≤ reachBytes := by
 obtain ⟨fuel, x, hx, hw⟩ := h
 obtain ⟨s, rfl, rfl, _⟩ := DataW.trod_string ht.h hx
 refine ⟨s, rfl, hw _ ?_⟩
 simp [DataW.weights]
theorem weights_all {ds : List (DataW H)} (h : ∀ l ∈ DataW.weightsAll P e ds, l ≤ reachBytes) : ∀ d ∈ ds, ∀ l ∈ d.weights P e, l ≤ reachBytes := by
 induction ds with
 | nil => intro d hd; cases hd
 | cons y r ih =>
  intro d hd l hl
  simp only [DataW.weightsAll] at h
  rcases mem_cons.1 hd with rfl | hd
  ·exact h l (mem_append_left _ hl)
  ·exact ih (fun l hl => h l (mem_append_right _ hl)) d hd l hl
theorem StOk.lenA [ht : TU P t (.array n e)] [tl : TL P t k ag] (h : StOk enc P w t cs) : cs.length = k := by
 obtain ⟨fuel, x, hx, _⟩ := h
 obtain ⟨xs, m, _, _, hl, _⟩ := DataW.trod_array ht.h hx
 rw [hl, tl.cellsOf]
theorem StOk.elem (i : Nat) [ht : TU P t (.array n e)] [tl : TL P e k ag] (h : StOk enc P w t cs) (hi : i < n) : StOk enc P w e ((cs.drop (i * k)).take k) := by
 obtain ⟨fuel, x, hx, hw⟩ := h
 obtain ⟨xs, m, _, rfl, hl, hlen, hfs⟩ := DataW.trod_array ht.h hx
 have h1 := hfs i hi
 have hi' : i < xs.length := by omega
 rw [List.getElem?_eq_getElem hi', tl.cellsOf] at h1
 refine ⟨m, xs[i], h1, ?_⟩
 simp only [DataW.weights, ht.h] at hw
 exact weights_all hw _ (mem_map.2 ⟨_, getElem_mem hi', rfl⟩)
end
end Go.Sl

namespace Go.Proofs.YtejfahjgfedliaaGreat
open Go Go.Sl Go.Proofs.Tryz
theorem Tryz.own : ownKnob prog.godebug = none := by kernel_rfl
theorem Tryz.laidOut : laidOutB prog = true := by kernel_rfl
end Go.Proofs.YtejfahjgfedliaaGreat

namespace Go.Proofs.YtejfahjgfedliaaGreat
open Go Go.Sl Go.Proofs.Tryz List
theorem rbit {s y : Nat} : crcD (s ^^^ y) = (if (s ^^^ y) &&& 1 = 1 then (s / 2 ^ 1) ^^^ 3988292384 else s / 2 ^ 1) ^^^ (y / 2) := by
 have h : (s ^^^ y) / 2 ^ 1 = (s / 2 ^ 1) ^^^ (y / 2) := Nat.xor_div_two
 unfold crcD
 rw [h]
 split
 ·rw [Nat.xor_assoc, Nat.xor_assoc, Nat.xor_comm (y / 2)]
 ·rfl
set_option maxHeartbeats 1000000 in
theorem rbits_ct {r : Nat} (hr : r < 4294967296) (x : UInt8) : Ct prog 231 [.int .u32 (r : Int), .int .u8 (x.toNat : Int)] [] (fun v H' => v = .int .u32 (crcB r x : Int) ∧ H' = []) := by
 have hx := byte_lt x
 refine Ct.mk' func231 rfl rfl rfl (fun g R => ?_)
 try simp only [ca]
 simp only [na]
 try refine run ?_
 refine W.loop (α := Nat × Nat) (fun y => y.1 ≤ 8 ∧ y.2 < 4294967296 ∧ crcI y.1 (r ^^^ x.toNat) = y.2 ^^^ (x.toNat / 2 ^ y.1)) (fun y => [(0, .int .u32 (y.2 : Int)), (1, .int .u8 (x.toNat : Int)), (5, .int .i64 (y.1 : Int))]) (fun _ => [R]) (fun y => 8 - y.1) (0, r) ⟨Nat.zero_le _, hr, by simp only [Nat.pow_zero, Nat.div_one]; rfl⟩ (by repeat (first | exact Fsub.nil | refine Fsub.cons rfl ?_)) (Hsub.of_picks inferInstance) ?_
 rintro ⟨i, s⟩ ⟨hi, hs, he⟩
 simp only [] at hi hs he ⊢
 by_cases hi8 : i < 8
 ·have hq : x.toNat / 2 ^ i ≤ x.toNat := Nat.div_le_self _ _
  have hxs : s ^^^ (x.toNat / 2 ^ i) < 4294967296 := xor_lt hs (by omega)
  have hn : crcI (i + 1) (r ^^^ x.toNat) = (if (s ^^^ (x.toNat / 2 ^ i)) &&& 1 = 1 then (s / 2 ^ 1) ^^^ 3988292384 else s / 2 ^ 1) ^^^ (x.toNat / 2 ^ (i + 1)) := by
   show crcD (crcI i (r ^^^ x.toNat)) = _
   have hq2 : x.toNat / 2 ^ i / 2 = x.toNat / 2 ^ (i + 1) := by rw [Nat.div_div_eq_div_mul, ← Nat.pow_succ]
   rw [he, rbit, hq2]
  have hi32 : i ≤ IntKind.u32.bits := by show i ≤ 32; omega
  by_cases hl : (s ^^^ (x.toNat / 2 ^ i)) &&& 1 = 1
  ·rw [if_pos hl] at hn
   repeat' (first | refine run ?_ | refine WX.conv rfl rfl (IntWalk.u32_in _ (by omega)) ?_ | refine WX.shrN (a := x.toNat) (m := i) rfl rfl hi32 rfl ?_ | refine WX.shrN (m := 1) rfl rfl (by decide) rfl ?_ | refine WX.xor32 (a := s) (b := x.toNat / 2 ^ i) rfl rfl hs (by omega) rfl ?_ | refine WX.and32 (a := s ^^^ (x.toNat / 2 ^ i)) (b := 1) rfl rfl hxs (by decide) rfl ?_ | refine WX.xor32 (b := 3988292384) rfl rfl (by omega) (by decide) rfl ?_ | fail)
   exact D.rd (i + 1, (s / 2 ^ 1) ^^^ 3988292384) ⟨by simp only []; omega, xor_lt (by omega) (by decide), hn⟩ (by simp only []; omega)
  ·rw [if_neg hl] at hn
   repeat' (first | refine run ?_ | refine WX.conv rfl rfl (IntWalk.u32_in _ (by omega)) ?_ | refine WX.shrN (a := x.toNat) (m := i) rfl rfl hi32 rfl ?_ | refine WX.shrN (m := 1) rfl rfl (by decide) rfl ?_ | refine WX.xor32 (a := s) (b := x.toNat / 2 ^ i) rfl rfl hs (by omega) rfl ?_ | refine WX.and32 (a := s ^^^ (x.toNat / 2 ^ i)) (b := 1) rfl rfl hxs (by decide) rfl ?_ | fail)
   exact D.rd (i + 1, s / 2 ^ 1) ⟨by simp only []; omega, by simp only []; omega, hn⟩ (by simp only []; omega)
 ·obtain rfl : i = 8 := by omega
  have h0 : x.toNat / 2 ^ 8 = 0 := Nat.div_eq_of_lt (by omega)
  rw [h0, Nat.xor_zero] at he
  try refine run ?_
  exact D.fin1 [] _ rfl rfl ⟨by rw [← he]; rfl, rfl⟩
theorem rmore_ct {bs : List UInt8} {v : Value} {h : Hp} (hb : Rs bs v h) (hl : bs.length ≤ 1099511627776) :
  Ct prog 192 [.int .u32 0, v] [h] (fun r H' => r = .int .u32 (crcS bs : Int) ∧ H' = [h]) := by
 have hs : (0 : Nat) < 4294967296 := by decide
 refine Ct.mk' func192 rfl rfl rfl (fun g R => ?_)
 try simp only [ca]
 simp only [na]
 repeat' (first | refine run ?_ | refine WX.com32 (a := 0) rfl hs rfl ?_ | fail)
 refine W.loop (α := Nat) (fun k => k ≤ bs.length) (fun k => [(1, v), (5, .int .u32 (((bs.take k).foldl crcB (4294967295 ^^^ 0) : Nat) : Int)), (6, .int .i64 (k : Int))]) (fun _ => [h, R]) (fun k => bs.length - k) 0 (Nat.zero_le _) (by repeat (first | exact Fsub.nil | refine Fsub.cons rfl ?_)) (Hsub.of_picks inferInstance) ?_
 intro k hk
 have hlt0 : (bs.take k).foldl crcB (4294967295 ^^^ 0) < 4294967296 := crcF_lt (xor_lt (by decide) hs)
 by_cases hlt : k < bs.length
 ·obtain ⟨x, hx⟩ : ∃ x, bs[k]? = some x := ⟨_, List.getElem?_eq_getElem hlt⟩
  obtain ⟨h1, h2⟩ := List.getElem?_eq_some_iff.1 hx
  have hnx : (bs.take (k + 1)).foldl crcB (4294967295 ^^^ 0) = crcB ((bs.take k).foldl crcB (4294967295 ^^^ 0)) x := by
   rw [take_succ_eq_append_getElem h1, h2, foldl_append]; rfl
  try refine run ?_
  refine WX.callQ rfl (rbits_ct hlt0 x) rfl ?_
  rw [← hnx]
  try refine run ?_
  exact D.rd (k + 1) (by omega) (by omega)
 ·obtain rfl : k = bs.length := by omega
  rw [take_length] at hlt0 ⊢
  repeat' (first | refine run ?_ | refine WX.com32 rfl hlt0 rfl ?_ | fail)
  exact D.fin1 [h] _ rfl rfl ⟨rfl, rfl⟩
structure Ot where
 b : List UInt8 := []
 bad : Bool := false
def Ot.put (O : Ot) (it : It) (u : Value) : Ot := ⟨O.b ++ (encI it u).getD [], O.bad || (encI it u).isNone⟩
def Cd.ot (C : Cd) : Ot := ⟨C.b, C.arg⟩
theorem Ot.put_num {O : Ot} {n : Int} : O.put (.num 0) (.int .i64 n) = if n < 0 ∨ 4611686018427387904 < n then ⟨O.b, true⟩ else ⟨O.b ++ encN n.toNat, O.bad⟩ := by
 unfold Ot.put
 rw [encI_num]
 by_cases h : n < 0 ∨ 4611686018427387904 < n
 ·rw [if_pos h, if_pos h]; simp
 ·rw [if_neg h, if_neg h]; simp
theorem Ot.put_len {O : Ot} {o : Nat} {n : Int} : (O.put (.num o) (.int .i64 n)).b.length ≤ O.b.length + 9 := by
 show (O.b ++ (encI (.num o) (.int .i64 n)).getD []).length ≤ _
 have := encI_len (it := .num o) (u := .int .i64 n) (by simp [strLen])
 have e : tl (.int .i64 n) (.num o) = 0 := rfl
 rw [length_append]
 omega
abbrev OBk (o : Nat) (O : Ot) (v : Value) : Hp := [(o, .cells (List.toArray [v, .bool O.bad]) 232 (0, 0))]
def OPost (o : Nat) (O' : Ot) : Value → HH → Prop := fun _ H' => ∃ v' h', H' = [OBk o O' v', h'] ∧ IsSl 5 O'.b v' h'
set_option maxHeartbeats 1000000 in
theorem onum_ct {O : Ot} {v : Value} {h : Hp} (hs : IsSl 5 O.b v h) (hl : O.b.length ≤ 1099511627776) {n : Int} {o : Nat} :
  Ct prog 198 [.pointer (some ⟨o, 0, none⟩), .int .i64 n] [OBk o O v, h] (OPost o (O.put (.num 0) (.int .i64 n))) := by
 obtain ⟨B, bad⟩ := O
 simp only [] at hs hl ⊢
 rw [Ot.put_num]
 refine Ct.mk' func198 rfl rfl rfl (fun g R => ?_)
 try simp only [ca]
 simp only [na]
 by_cases h1 : n < 0
 ·rw [if_pos (.inl h1)]
  try refine run ?_
  exact D.fin0 [OBk o ⟨B, true⟩ v, h] _ rfl ⟨_, _, rfl, hs⟩
 by_cases h2 : 4611686018427387904 < n
 ·rw [if_pos (.inr h2)]
  try refine run ?_
  exact D.fin0 [OBk o ⟨B, true⟩ v, h] _ rfl ⟨_, _, rfl, hs⟩
 rw [if_neg (by omega)]
 obtain ⟨m0, rfl⟩ : ∃ m : Nat, n = (m : Int) := ⟨n.toNat, by omega⟩
 rw [Int.toNat_natCast]
 have h9 : (encN m0).length ≤ 9 := encN_9 (by omega)
 obtain ⟨p0, n0, c0, rfl⟩ := hs.sh
 try refine run ?_
 refine W.loop (α := Nat × List UInt8 × Value × Hp) (fun x => x.2.1 ++ encN x.1 = encN m0 ∧ IsSl 5 (B ++ x.2.1) x.2.2.1 x.2.2.2 ∧ x.1 ≤ m0 ∧ ∃ p n c, x.2.2.1 = .slice p n c) (fun x => [(0, .pointer (some ⟨o, 0, none⟩)), (1, .int .i64 (x.1 : Int))])
  (fun x => [OBk o ⟨B, bad⟩ x.2.2.1, x.2.2.2, R]) (fun x => x.1) (m0, [], .slice p0 n0 c0, h) ⟨rfl, by simpa using hs, Nat.le_refl _, _, _, _, rfl⟩ (by repeat (first | exact Fsub.nil | refine Fsub.cons rfl ?_)) (Hsub.of_picks inferInstance) ?_
 rintro ⟨m, dn, u, hu⟩ ⟨e1, hs1, hm, pu, nu, cu, rfl⟩
 simp only [] at e1 hs1 hm ⊢
 have hdl : dn.length ≤ 9 := by rw [← e1, length_append] at h9; omega
 by_cases hge : m < 128
 ·rw [encN_lt hge] at e1
  repeat' (first | refine run ?_ | refine WX.conv rfl rfl (IntWalk.u8_in _ (by omega)) ?_ | fail)
  refine WX.as 36 (.int .u8 ((UInt8.ofNat m).toNat : Int)) rfl (by rw [byte_ofNat (by omega)]) ?_
  refine WX.lit (ys := [UInt8.ofNat m]) rfl rfl rfl rfl rfl rfl (by decide) rfl (fun v1 h1 hs2 => ?_)
  refine WX.app rfl rfl hs1 hs2.rs rfl rfl (by decide) (by simp only [length_append, length_cons, length_nil]; omega) rfl (fun v2 h2 hs3 => ?_)
  rw [append_assoc, e1] at hs3
  obtain ⟨p1, n1, c1, rfl⟩ := hs3.sh
  try refine run ?_
  exact D.finE [OBk o ⟨B ++ encN m0, bad⟩ (.slice p1 n1 c1), h2] _ rfl ⟨_, _, rfl, hs3⟩
 ·rw [encN_ge hge] at e1
  repeat' (first | refine run ?_ | refine WX.rem rfl rfl rfl (by decide) ?_ | fail)
  refine WX.as 21 (.int .i64 ((m % 128 : Nat) : Int)) rfl (by rw [Int.ofNat_tmod]; rfl) ?_
  repeat' (first | refine run ?_ | refine WX.conv rfl rfl (IntWalk.u8_in _ (by omega)) ?_ | fail)
  refine WX.as 23 (.int .u8 ((UInt8.ofNat (128 + m % 128)).toNat : Int)) rfl (by rw [byte_ofNat (by omega)]; congr 1) ?_
  refine WX.lit (ys := [UInt8.ofNat (128 + m % 128)]) rfl rfl rfl rfl rfl rfl (by decide) rfl (fun v1 h1 hs2 => ?_)
  refine WX.app rfl rfl hs1 hs2.rs rfl rfl (by decide) (by simp only [length_append, length_cons, length_nil]; omega) rfl (fun v2 h2 hs3 => ?_)
  rw [append_assoc] at hs3
  obtain ⟨p1, n1, c1, rfl⟩ := hs3.sh
  repeat' (first | refine run ?_ | refine WX.quo rfl rfl rfl (by decide) ?_ | fail)
  refine D.as 1 (.int .i64 ((m / 128 : Nat) : Int)) rfl (by rw [IntWalk.i64_quo _ _ (by omega)]; rfl) ?_
  exact D.rd (m / 128, dn ++ [UInt8.ofNat (128 + m % 128)], .slice p1 n1 c1, h2) ⟨by simp only []; rw [append_assoc]; exact e1, hs3, by simp only []; omega, _, _, _, rfl⟩ (by simp only []; omega)
theorem otru_ct {O : Ot} {v : Value} {h : Hp} (hs : IsSl 5 O.b v h) (hl : O.b.length ≤ 1099511627776) {t : Bool} {o : Nat} :
  Ct prog 233 [.pointer (some ⟨o, 0, none⟩), .bool t] [OBk o O v, h] (OPost o (O.put (.tru 0) (.bool t))) := by
 obtain ⟨B, bad⟩ := O
 simp only [] at hs hl ⊢
 obtain ⟨p0, n0, c0, rfl⟩ := hs.sh
 refine Ct.mk' func233 rfl rfl rfl (fun g R => ?_)
 try simp only [ca]
 simp only [na]
 cases t with
 | true =>
  have e : Ot.put ⟨B, bad⟩ (.tru 0) (.bool true) = ⟨B ++ [1], bad⟩ := by
   have h1 : encI (.tru 0) (.bool true) = some [1] := by show some (encN 1) = _; rw [encN_lt (by decide)]; rfl
   unfold Ot.put; rw [h1]; cases bad <;> rfl
  rw [e]
  try refine run ?_
  refine I.bs ?_
  refine WX.lit (ys := [(1 : UInt8)]) rfl rfl rfl rfl rfl rfl (by decide) rfl (fun v1 h1 hs2 => ?_)
  refine WX.app rfl rfl hs hs2.rs rfl rfl (by decide) (by simp only [length_cons, length_nil]; omega) rfl (fun v2 h2 hs3 => ?_)
  obtain ⟨p1, n1, c1, rfl⟩ := hs3.sh
  try refine run ?_
  exact D.finE [OBk o ⟨B ++ [1], bad⟩ (.slice p1 n1 c1), h2] _ rfl ⟨_, _, rfl, hs3⟩
 | false =>
  have e : Ot.put ⟨B, bad⟩ (.tru 0) (.bool false) = ⟨B ++ [0], bad⟩ := by
   have h1 : encI (.tru 0) (.bool false) = some [0] := by show some (encN 0) = _; rw [encN_lt (by decide)]; rfl
   unfold Ot.put; rw [h1]; cases bad <;> rfl
  rw [e]
  try refine run ?_
  refine I.bs ?_
  refine WX.lit (ys := [(0 : UInt8)]) rfl rfl rfl rfl rfl rfl (by decide) rfl (fun v1 h1 hs2 => ?_)
  refine WX.app rfl rfl hs hs2.rs rfl rfl (by decide) (by simp only [length_cons, length_nil]; omega) rfl (fun v2 h2 hs3 => ?_)
  obtain ⟨p1, n1, c1, rfl⟩ := hs3.sh
  try refine run ?_
  exact D.finE [OBk o ⟨B ++ [0], bad⟩ (.slice p1 n1 c1), h2] _ rfl ⟨_, _, rfl, hs3⟩
theorem Ot.put_txt {O : Ot} {s : ByteArray} (h : s.data.toList.length ≤ 4611686018427387904) : O.put (.txt 0 0) (.string s) = ⟨(O.put (.num 0) (.int .i64 (s.size : Int))).b ++ s.data.toList, (O.put (.num 0) (.int .i64 (s.size : Int))).bad⟩ := by
 have hz : s.size = s.data.toList.length := rfl
 rw [Ot.put_num, if_neg (by omega), Int.toNat_natCast]
 unfold Ot.put
 rw [show encI (.txt 0 0) (.string s) = some (encN s.data.toList.length ++ s.data.toList) from rfl, hz]
 simp
theorem otxt_ct {O : Ot} {v : Value} {h : Hp} (hs : IsSl 5 O.b v h) (hl : O.b.length ≤ 549755813888) {s : ByteArray} (hz : s.data.toList.length ≤ 1073741824) {o : Nat} :
  Ct prog 232 [.pointer (some ⟨o, 0, none⟩), .string s] [OBk o O v, h] (OPost o (O.put (.txt 0 0) (.string s))) := by
 rw [Ot.put_txt (by omega)]
 have hp := O.put_len (o := 0) (n := (s.size : Int))
 refine Ct.mk' func232 rfl rfl rfl (fun g R => ?_)
 try simp only [ca]
 simp only [na]
 try refine run ?_
 refine WX.call rfl (onum_ct hs (by omega) (n := (s.size : Int))) rfl ?_
 rintro _ _ ⟨v1, h1, rfl, hs1⟩
 obtain ⟨p0, n0, c0, rfl⟩ := hs1.sh
 simp only [ca, na]
 try refine run ?_
 refine WX.appS rfl rfl hs1 rfl (by decide) (by omega) rfl (fun v2 h2 hs2 => ?_)
 obtain ⟨p1, n1, c1, rfl⟩ := hs2.sh
 try refine run ?_
 exact D.finE [OBk o ⟨(O.put (.num 0) (.int .i64 (s.size : Int))).b ++ s.data.toList, (O.put (.num 0) (.int .i64 (s.size : Int))).bad⟩ (.slice p1 n1 c1), h2] _ rfl ⟨_, _, rfl, hs2⟩
def Ot.nums (O : Ot) (ns : List Int) : Ot := ns.foldl (fun O n => O.put (.num 0) (.int .i64 n)) O
theorem nums_len {O : Ot} (ns : List Int) : (O.nums ns).b.length ≤ O.b.length + 9 * ns.length := by
 induction ns generalizing O with
 | nil => exact Nat.le_refl _
 | cons n t ih =>
  have h1 := ih (O := O.put (.num 0) (.int .i64 n))
  have h2 := O.put_len (o := 0) (n := n)
  show ((O.put (.num 0) (.int .i64 n)).nums t).b.length ≤ _
  rw [length_cons]; omega
theorem nums_snoc {O : Ot} {ns : List Int} {n : Int} : O.nums (ns ++ [n]) = (O.nums ns).put (.num 0) (.int .i64 n) := by unfold Ot.nums; rw [foldl_append]; rfl
theorem onums_ct {O : Ot} {ns : List Int} {v : Value} {h : Hp} (hs : IsSl 5 (O.nums ns).b v h) (hl : O.b.length ≤ 549755813888) (hn : ns.length ≤ 100) (n : Int) {o : Nat} :
  Ct prog 198 [.pointer (some ⟨o, 0, none⟩), .int .i64 n] [OBk o (O.nums ns) v, h] (OPost o (O.nums (ns ++ [n]))) := by
 have h1 := nums_len (O := O) ns
 rw [nums_snoc]
 exact onum_ct hs (by omega)
theorem txt_len {O : Ot} {s : ByteArray} (h : s.data.toList.length ≤ 1073741824) : (O.put (.txt 0 0) (.string s)).b.length ≤ O.b.length + 9 + s.data.toList.length := by
 rw [Ot.put_txt (by omega)]
 have := O.put_len (o := 0) (n := (s.size : Int))
 simp only [length_append]
 omega
theorem tru_len {O : Ot} {t : Bool} : (O.put (.tru 0) (.bool t)).b.length ≤ O.b.length + 9 := by
 show (O.b ++ (encI (.tru 0) (.bool t)).getD []).length ≤ _
 have := encI_len (it := .tru 0) (u := .bool t) (by simp [strLen])
 have e : tl (.bool t) (.tru 0) = 0 := rfl
 rw [length_append]
 omega
def V9.ls (v : V9) : List Int := [v.a, v.b, v.c, v.d, v.e, v.f, v.g, v.h, v.i]
theorem V9.at9 (v : V9) {j : Nat} (h : j < 9) : ∃ x, v.ls[j]? = some x ∧ v.enc[j]? = some (.int .i64 x) := by
 have hl : v.ls.length = 9 := rfl
 have he : v.enc = v.ls.map (.int .i64) := rfl
 exact ⟨_, List.getElem?_eq_getElem (by omega), by rw [he, List.getElem?_map, List.getElem?_eq_getElem (by omega)]; rfl⟩
set_option maxHeartbeats 1000000 in
theorem ovec_ct {O : Ot} {v : Value} {h : Hp} (hs : IsSl 5 O.b v h) (hl : O.b.length ≤ 549755813888) (d : V9) {o : Nat} :
  Ct prog 234 [.pointer (some ⟨o, 0, none⟩), .agg d.enc.toArray] [OBk o O v, h] (OPost o (O.nums d.ls)) := by
 have hdl : d.ls.length = 9 := rfl
 refine Ct.mk' func234 rfl rfl rfl (fun g R => ?_)
 try simp only [ca]
 simp only [na]
 repeat' (first | apply go | fail)
 refine WX.box (vs := d.enc) rfl rfl rfl (fun b => ?_)
 try refine run ?_
 refine W.hp (H' := [[(b, .cells d.enc.toArray 37 (0, 0))], OBk o (O.nums (d.ls.take (0 * 3 + 0))) v, h, R]) rfl ?_
 refine W.loop (α := Nat × Value × Hp) (fun x => x.1 ≤ 3 ∧ IsSl 5 (O.nums (d.ls.take (x.1 * 3 + 0))).b x.2.1 x.2.2) (fun x => [(0, .pointer (some ⟨o, 0, none⟩)), (3, .pointer (some ⟨b, 0, none⟩)), (4, .int .i64 (x.1 : Int))])
  (fun x => [OBk o (O.nums (d.ls.take (x.1 * 3 + 0))) x.2.1, x.2.2, [(b, .cells d.enc.toArray 37 (0, 0))], R]) (fun x => 3 - x.1) (0, v, h) ⟨Nat.zero_le _, hs⟩ (by repeat (first | exact Fsub.nil | refine Fsub.cons rfl ?_)) (Hsub.of_picks inferInstance) ?_
 rintro ⟨k, u, hu⟩ ⟨hk, hsu⟩
 simp only [] at hk hsu ⊢
 by_cases hk3 : k < 3
 ·try refine run ?_
  refine W.loop (α := Nat × Value × Hp) (fun x => x.1 ≤ 3 ∧ IsSl 5 (O.nums (d.ls.take (k * 3 + x.1))).b x.2.1 x.2.2) (fun x => [(0, .pointer (some ⟨o, 0, none⟩)), (3, .pointer (some ⟨b, 0, none⟩)), (4, .int .i64 (k : Int)), (5, .int .i64 (x.1 : Int))])
   (fun x => [OBk o (O.nums (d.ls.take (k * 3 + x.1))) x.2.1, x.2.2, [(b, .cells d.enc.toArray 37 (0, 0))], R]) (fun x => 3 - x.1) (0, u, hu) ⟨Nat.zero_le _, hsu⟩ (by repeat (first | exact Fsub.nil | refine Fsub.cons rfl ?_)) (Hsub.of_picks inferInstance) ?_
  rintro ⟨r, w, hw⟩ ⟨hr, hsw⟩
  simp only [] at hr hsw ⊢
  by_cases hr3 : r < 3
  ·obtain ⟨x, hx, hv⟩ := d.at9 (j := k * 3 + r) (by omega)
   have hnx : d.ls.take (k * 3 + (r + 1)) = d.ls.take (k * 3 + r) ++ [x] := by
    rw [← Nat.add_assoc, take_succ_eq_append_getElem (List.getElem?_eq_some_iff.1 hx).1, (List.getElem?_eq_some_iff.1 hx).2]
   try refine run ?_
   refine WX.as 18 (.pointer (some ⟨b, k * 3 + r, none⟩)) rfl (by rw [Int.toNat_natCast, Int.toNat_natCast, Nat.mul_one, Nat.zero_add]) ?_
   refine I.ld ?_
   refine WX.load rfl hv rfl ?_
   refine WX.call rfl (onums_ct hsw hl (by rw [length_take]; omega) x) rfl ?_
   rintro _ _ ⟨v1, h1, rfl, hs1⟩
   rw [← hnx] at hs1 ⊢
   simp only [ca, na]
   try refine run ?_
   exact D.rd (r + 1, v1, h1) ⟨by simp only []; omega, hs1⟩ (by simp only []; omega)
  ·obtain rfl : r = 3 := by omega
   rw [show k * 3 + 3 = (k + 1) * 3 + 0 by omega] at hsw ⊢
   try refine run ?_
   exact D.rd (k + 1, w, hw) ⟨by simp only []; omega, hsw⟩ (by simp only []; omega)
 ·obtain rfl : k = 3 := by omega
  rw [show d.ls.take (3 * 3 + 0) = d.ls from rfl] at hsu ⊢
  try refine run ?_
  exact D.finE [OBk o (O.nums d.ls) u, hu] _ rfl ⟨_, _, rfl, hsu⟩
theorem omem_ct {O : Ot} {ns : List Int} {v : Value} {h : Hp} (hs : IsSl 5 (O.nums ns).b v h) (hl : O.b.length ≤ 549755813888) (hn : ns.length ≤ 90) (x y : Int) {o : Nat} :
  Ct prog 235 [.pointer (some ⟨o, 0, none⟩), .agg #[.int .i64 x, .int .i64 y]] [OBk o (O.nums ns) v, h] (OPost o (O.nums (ns ++ [x, y]))) := by
 refine Ct.mk' func235 rfl rfl rfl (fun g R => ?_)
 try simp only [ca]
 simp only [na]
 repeat' (first | apply go | fail)
 refine WX.box (vs := [.int .i64 x, .int .i64 y]) rfl rfl rfl (fun b => ?_)
 try refine run ?_
 refine WX.call rfl (onums_ct hs hl (by omega) x) rfl ?_
 rintro _ _ ⟨v1, h1, rfl, hs1⟩
 simp only [ca, na]
 try refine run ?_
 refine WX.call rfl (onums_ct hs1 hl (by rw [length_append]; simp only [length_cons, length_nil]; omega) y) rfl ?_
 rintro _ _ ⟨v2, h2, rfl, hs2⟩
 rw [append_assoc] at hs2 ⊢
 simp only [ca, na]
 try refine run ?_
 exact D.finE [OBk o (O.nums (ns ++ [x, y])) v2, h2] _ rfl ⟨_, _, rfl, hs2⟩
def Cfg.ms (c : Cfg) : List Mem := [c.f0, c.f1, c.f2, c.f3]
def memNs (l : List Mem) : List Int := (l.map fun m => [m.nd, m.sn]).flatten
def Cfg.pre (c : Cfg) (i : Nat) : List Int := [c.ep, c.n] ++ memNs (c.ms.take i)
def Cfg.oput (c : Cfg) (O : Ot) : Ot := ((O.nums (c.pre 4)).put (.tru 0) (.bool c.jo)).nums [c.le.nd, c.le.sn]
theorem Cfg.cut (c : Cfg) {i : Nat} (h : i < 4) : ∃ m, c.ms[i]? = some m ∧ (c.enc.drop (2 + i * 2)).take 2 = [.int .i64 m.nd, .int .i64 m.sn] := by
 match i, h with
 | 0, _ => exact ⟨c.f0, rfl, rfl⟩
 | 1, _ => exact ⟨c.f1, rfl, rfl⟩
 | 2, _ => exact ⟨c.f2, rfl, rfl⟩
 | 3, _ => exact ⟨c.f3, rfl, rfl⟩
set_option maxHeartbeats 1000000 in
theorem ocfg_ct {O : Ot} {v : Value} {h : Hp} (hs : IsSl 5 O.b v h) (hl : O.b.length ≤ 274877906944) (c : Cfg) {o : Nat} :
  Ct prog 200 [.pointer (some ⟨o, 0, none⟩), .agg c.enc.toArray] [OBk o O v, h] (OPost o (c.oput O)) := by
 refine Ct.mk' func200 rfl rfl rfl (fun g R => ?_)
 try simp only [ca]
 simp only [na]
 repeat' (first | apply go | fail)
 refine WX.box (vs := c.enc) rfl rfl rfl (fun b => ?_)
 try refine run ?_
 refine WX.hp (H' := [[(b, .cells c.enc.toArray 34 (0, 0))], OBk o (O.nums []) v, h, R]) rfl ?_
 refine WX.call rfl (onums_ct (ns := []) hs (by omega) (by simp) c.ep) rfl ?_
 rintro _ _ ⟨v1, h1, rfl, hs1⟩
 simp only [na] at hs1
 simp only [ca, na]
 try refine run ?_
 refine WX.call rfl (onums_ct hs1 (by omega) (by simp) c.n) rfl ?_
 rintro _ _ ⟨v2, h2, rfl, hs2⟩
 simp only [ca, na] at hs2
 simp only [ca, na]
 try refine run ?_
 refine W.hp (H' := [OBk o (O.nums (c.pre 0)) v2, h2, [(b, .cells c.enc.toArray 34 (0, 0))], R]) rfl ?_
 refine W.loop (α := Nat × Value × Hp) (fun x => x.1 ≤ 4 ∧ IsSl 5 (O.nums (c.pre x.1)).b x.2.1 x.2.2) (fun x => [(0, .pointer (some ⟨o, 0, none⟩)), (3, .pointer (some ⟨b, 0, none⟩)), (4, .int .i64 (x.1 : Int))])
  (fun x => [OBk o (O.nums (c.pre x.1)) x.2.1, x.2.2, [(b, .cells c.enc.toArray 34 (0, 0))], R]) (fun x => 4 - x.1) (0, v2, h2) ⟨Nat.zero_le _, hs2⟩ (by repeat (first | exact Fsub.nil | refine Fsub.cons rfl ?_)) (Hsub.of_picks inferInstance) ?_
 rintro ⟨i, u, hu⟩ ⟨hi, hsu⟩
 simp only [] at hi hsu ⊢
 have hml : (c.pre i).length ≤ 10 := by
  match i, hi with
  | 0, _ => exact (by decide : 2 ≤ 10)
  | 1, _ => exact (by decide : 4 ≤ 10)
  | 2, _ => exact (by decide : 6 ≤ 10)
  | 3, _ => exact (by decide : 8 ≤ 10)
  | 4, _ => exact (by decide : 10 ≤ 10)
 by_cases hi4 : i < 4
 ·obtain ⟨m, hm, hcut⟩ := c.cut hi4
  have hnx : c.pre (i + 1) = c.pre i ++ [m.nd, m.sn] := by
   unfold Cfg.pre
   rw [take_succ_eq_append_getElem (List.getElem?_eq_some_iff.1 hm).1, (List.getElem?_eq_some_iff.1 hm).2]
   unfold memNs
   simp
  try refine run ?_
  refine WX.as 20 (.pointer (some ⟨b, 2 + i * 2, none⟩)) rfl (by rw [Int.toNat_natCast, Nat.zero_add]) ?_
  refine I.ld ?_
  refine WX.loadA (b := b) (i := 2 + i * 2) (cs := c.enc) (vs := [.int .i64 m.nd, .int .i64 m.sn]) rfl hcut rfl rfl ?_
  refine WX.call rfl (omem_ct hsu (by omega) (by omega) m.nd m.sn) rfl ?_
  rintro _ _ ⟨v3, h3, rfl, hs3⟩
  rw [← hnx] at hs3 ⊢
  simp only [ca, na]
  try refine run ?_
  exact D.rd (i + 1, v3, h3) ⟨by simp only []; omega, hs3⟩ (by simp only []; omega)
 ·obtain rfl : i = 4 := by omega
  have hA := nums_len (O := O) (c.pre 4)
  rw [show (c.pre 4).length = 10 from rfl] at hA
  try refine run ?_
  refine WX.call rfl (otru_ct hsu (by omega) (t := c.jo)) rfl ?_
  rintro _ _ ⟨v4, h4, rfl, hs4⟩
  have hB := tru_len (O := O.nums (c.pre 4)) (t := c.jo)
  simp only [ca, na]
  try refine run ?_
  refine WX.hp (H' := [OBk o (((O.nums (c.pre 4)).put (.tru 0) (.bool c.jo)).nums []) v4, h4, [(b, .cells c.enc.toArray 34 (0, 0))], R]) rfl ?_
  refine WX.call rfl (omem_ct (O := (O.nums (c.pre 4)).put (.tru 0) (.bool c.jo)) (ns := []) hs4 (by omega) (by simp) c.le.nd c.le.sn) rfl ?_
  rintro _ _ ⟨v5, h5, rfl, hs5⟩
  simp only [ca, na]
  try refine run ?_
  exact D.finE [OBk o (((O.nums (c.pre 4)).put (.tru 0) (.bool c.jo)).nums [c.le.nd, c.le.sn]) v5, h5] _ rfl ⟨_, _, rfl, hs5⟩
def Ent.six (e : Ent) : List Int := [e.dc, e.rg, e.sq, e.ct, e.sd, e.sr]
def Ent.oput (e : Ent) (O : Ot) : Ot := (((((O.nums e.six).put (.txt 0 0) (.string e.key)).put (.txt 0 0) (.string e.val)).put (.tru 0) (.bool e.dead)).nums e.dp.ls).nums [e.cl, e.op]
set_option maxHeartbeats 2000000 in
theorem oent_ct {O : Ot} {v : Value} {h : Hp} (hs : IsSl 5 O.b v h) (hl : O.b.length ≤ 1073741824) (e : Ent) (hk : e.key.data.toList.length ≤ 1073741824) (hv : e.val.data.toList.length ≤ 1073741824) {o : Nat} :
  Ct prog 199 [.pointer (some ⟨o, 0, none⟩), .agg e.enc.toArray] [OBk o O v, h] (OPost o (e.oput O)) := by
 have l1 := nums_len (O := O) e.six
 rw [show e.six.length = 6 from rfl] at l1
 have l2 := txt_len (O := O.nums e.six) hk
 have l3 := txt_len (O := (O.nums e.six).put (.txt 0 0) (.string e.key)) hv
 have l4 := tru_len (O := ((O.nums e.six).put (.txt 0 0) (.string e.key)).put (.txt 0 0) (.string e.val)) (t := e.dead)
 have l5 := nums_len (O := (((O.nums e.six).put (.txt 0 0) (.string e.key)).put (.txt 0 0) (.string e.val)).put (.tru 0) (.bool e.dead)) e.dp.ls
 rw [show e.dp.ls.length = 9 from rfl] at l5
 refine Ct.mk' func199 rfl rfl rfl (fun g R => ?_)
 try simp only [ca]
 simp only [na]
 repeat' (first | apply go | fail)
 refine WX.box (vs := e.enc) rfl rfl rfl (fun b => ?_)
 refine WX.hp (H' := [[(b, .cells e.enc.toArray 43 (0, 0))], OBk o (O.nums []) v, h, R]) rfl ?_
 try refine run ?_
 refine WX.call rfl (onums_ct (ns := []) hs (by omega) (by simp) e.dc) rfl ?_
 rintro _ _ ⟨v1, hv1, rfl, hsv1⟩
 simp only [ca, na] at hsv1
 simp only [ca, na]
 try refine run ?_
 refine WX.call rfl (onums_ct hsv1 (by omega) (by simp) e.rg) rfl ?_
 rintro _ _ ⟨v2, hv2, rfl, hsv2⟩
 simp only [ca, na] at hsv2
 simp only [ca, na]
 try refine run ?_
 refine WX.call rfl (onums_ct hsv2 (by omega) (by simp) e.sq) rfl ?_
 rintro _ _ ⟨v3, hv3, rfl, hsv3⟩
 simp only [ca, na] at hsv3
 simp only [ca, na]
 try refine run ?_
 refine WX.call rfl (onums_ct hsv3 (by omega) (by simp) e.ct) rfl ?_
 rintro _ _ ⟨v4, hv4, rfl, hsv4⟩
 simp only [ca, na] at hsv4
 simp only [ca, na]
 try refine run ?_
 refine WX.call rfl (onums_ct hsv4 (by omega) (by simp) e.sd) rfl ?_
 rintro _ _ ⟨v5, hv5, rfl, hsv5⟩
 simp only [ca, na] at hsv5
 simp only [ca, na]
 try refine run ?_
 refine WX.call rfl (onums_ct hsv5 (by omega) (by simp) e.sr) rfl ?_
 rintro _ _ ⟨v6, hv6, rfl, hsv6⟩
 simp only [ca, na] at hsv6
 simp only [ca, na]
 have hsv6 : IsSl 5 (O.nums e.six).b v6 hv6 := hsv6
 refine WX.hp (H' := [OBk o (O.nums e.six) v6, hv6, [(b, .cells e.enc.toArray 43 (0, 0))], R]) rfl ?_
 unfold Ent.oput
 generalize O.nums e.six = A at *
 try refine run ?_
 refine WX.call rfl (otxt_ct hsv6 (by omega) hk) rfl ?_
 rintro _ _ ⟨v7, h7, rfl, hs7⟩
 generalize A.put (.txt 0 0) (.string e.key) = B at *
 simp only [ca, na]
 try refine run ?_
 refine WX.call rfl (otxt_ct hs7 (by omega) hv) rfl ?_
 rintro _ _ ⟨v8, h8, rfl, hs8⟩
 generalize B.put (.txt 0 0) (.string e.val) = C at *
 simp only [ca, na]
 try refine run ?_
 refine WX.call rfl (otru_ct hs8 (by omega) (t := e.dead)) rfl ?_
 rintro _ _ ⟨v9, h9, rfl, hs9⟩
 generalize C.put (.tru 0) (.bool e.dead) = G at *
 simp only [ca, na]
 try refine run ?_
 refine WX.call rfl (ovec_ct hs9 (by omega) e.dp) rfl ?_
 rintro _ _ ⟨v10, h10, rfl, hs10⟩
 generalize G.nums e.dp.ls = F at *
 refine WX.hp (H' := [OBk o (F.nums []) v10, h10, [(b, .cells e.enc.toArray 43 (0, 0))], R]) rfl ?_
 try refine run ?_
 refine WX.call rfl (onums_ct (O := F) (ns := []) hs10 (by omega) (by simp) e.cl) rfl ?_
 rintro _ _ ⟨v11, hv11, rfl, hsv11⟩
 simp only [ca, na] at hsv11
 simp only [ca, na]
 try refine run ?_
 refine WX.call rfl (onums_ct hsv11 (by omega) (by simp) e.op) rfl ?_
 rintro _ _ ⟨v12, hv12, rfl, hsv12⟩
 simp only [ca, na] at hsv12
 simp only [ca, na]
 try refine run ?_
 exact D.finE [OBk o (F.nums [e.cl, e.op]) v12, hv12] _ rfl ⟨_, _, rfl, hsv12⟩
theorem u8_mod (n : Nat) : UInt8.ofNat (n % 256) = UInt8.ofNat n := by
 apply UInt8.toNat_inj.1
 rw [UInt8.toNat_ofNat', UInt8.toNat_ofNat']
 omega
set_option maxHeartbeats 1000000 in
theorem oframe_ct {B : List UInt8} {v : Value} {h : Hp} (hr : Rs B v h) (hl : B.length ≤ 1099511627776) :
  Ct prog 202 [v] [h] (fun r H' => ∃ hb, H' = [h, hb] ∧ IsSl 5 (frame B) r hb) := by
 have hcl := crcS_lt B
 have hd : (B.length : Int).tmod 256 = ((B.length % 256 : Nat) : Int) := by rw [Int.ofNat_tmod]; rfl
 refine Ct.mk' func202 rfl rfl rfl (fun g R => ?_)
 try simp only [ca]
 simp only [na]
 repeat' (first | refine run ?_ | refine WX.quoN (a := B.length) (b := 256) rfl rfl rfl rfl (by decide) (by omega) rfl ?_ | (refine WX.rem rfl rfl rfl (by decide) ?_; rw [hd]) | refine WX.convW rfl rfl ?_ | fail)
 refine WX.as 9 (.int .u8 ((UInt8.ofNat (B.length / 2 ^ 8)).toNat : Int)) rfl (by rw [u8_wrap]) ?_
 refine WX.as 13 (.int .u8 ((UInt8.ofNat B.length).toNat : Int)) rfl (by rw [u8_wrap, u8_mod]) ?_
 refine WX.lit (ys := [UInt8.ofNat (B.length / 2 ^ 8), UInt8.ofNat B.length]) rfl rfl rfl rfl rfl rfl (by decide) rfl (fun v1 h1 hs1 => ?_)
 refine WX.nilH ?_
 refine WX.app rfl rfl (IsSl.nil _) hs1.rs rfl rfl (by decide) (by simp only [length_cons, length_nil]; omega) rfl (fun v2 h2 hs2 => ?_)
 try refine run ?_
 refine WX.app rfl rfl hs2 hr rfl rfl (by decide) (by simp only [length_append, length_cons, length_nil]; omega) rfl (fun v3 h3 hs3 => ?_)
 try refine run ?_
 refine WX.callQ rfl (rmore_ct hr hl) rfl ?_
 repeat' (first | refine run ?_ | refine WX.shrN (m := 24) rfl rfl (by decide) rfl ?_ | refine WX.shrN (m := 16) rfl rfl (by decide) rfl ?_ | refine WX.shrN (m := 8) rfl rfl (by decide) rfl ?_ | refine WX.convW rfl rfl ?_ | fail)
 refine WX.as 24 (.int .u8 ((UInt8.ofNat (crcS B / 2 ^ 24)).toNat : Int)) rfl (by rw [u8_wrap]) ?_
 refine WX.as 27 (.int .u8 ((UInt8.ofNat (crcS B / 2 ^ 16)).toNat : Int)) rfl (by rw [u8_wrap]) ?_
 refine WX.as 30 (.int .u8 ((UInt8.ofNat (crcS B / 2 ^ 8)).toNat : Int)) rfl (by rw [u8_wrap]) ?_
 refine WX.as 32 (.int .u8 ((UInt8.ofNat (crcS B)).toNat : Int)) rfl (by rw [u8_wrap]) ?_
 refine WX.lit (ys := be32 (crcS B)) rfl rfl rfl rfl rfl rfl (by decide) rfl (fun v4 h4 hs4 => ?_)
 refine WX.app rfl rfl hs3 hs4.rs rfl rfl (by decide) (by rw [show (be32 (crcS B)).length = 4 from rfl]; simp only [length_append, length_cons, length_nil]; omega) rfl (fun v5 h5 hs5 => ?_)
 try refine run ?_
 exact D.fin1 [h, h5] _ rfl rfl ⟨_, rfl, hs5⟩
structure Sb where
 s : ByteArray
instance : Enc Sb := ⟨1, fun x => [.string x.s], fun _ => rfl, fun _ => rfl, by decide⟩
theorem olong_ct {x y : Sb} {u w : Value} {hu hw : Hp} (h1 : Rs [x] u hu) (h2 : Rs [y] w hw) :
  Ct prog 201 [u, w] [hu, hw] (fun r H' => r = .bool (decide (16 < x.s.size ∨ 32 < y.s.size)) ∧ H' = [hu, hw]) := by
 have e1 : [x][0]? = some x := rfl
 have e2 : [y][0]? = some y := rfl
 have hll : (([x].length : Nat) : Int) = 1 := rfl
 refine Ct.mk' func201 rfl rfl rfl (fun g R => ?_)
 try simp only [ca]
 simp only [na]
 try refine run ?_
 refine W.loop (α := Nat) (fun i => i ≤ 1 ∧ (i = 1 → ¬ (16 < x.s.size ∨ 32 < y.s.size))) (fun i => [(0, u), (1, w), (5, .int .i64 (i : Int))]) (fun _ => [hu, hw, R]) (fun i => 1 - i) 0 ⟨Nat.zero_le _, fun h => absurd h (by decide)⟩ (by repeat (first | exact Fsub.nil | refine Fsub.cons rfl ?_)) (Hsub.of_picks inferInstance) ?_
 intro i ⟨hi, hn⟩
 by_cases hi0 : i = 0
 ·subst hi0
  by_cases hk : 16 < x.s.size
  ·try refine run ?_
   exact D.fin1 [hu, hw] _ rfl rfl ⟨by rw [decide_eq_true (.inl hk)], rfl⟩
  ·by_cases hv : 32 < y.s.size
   ·try refine run ?_
    exact D.fin1 [hu, hw] _ rfl rfl ⟨by rw [decide_eq_true (.inr hv)], rfl⟩
   ·try refine run ?_
    exact D.rd 1 ⟨by omega, fun _ => by omega⟩ (by omega)
 ·obtain rfl : i = 1 := by omega
  have hn := hn rfl
  try refine run ?_
  exact D.fin1 [hu, hw] _ rfl rfl ⟨by rw [decide_eq_false hn], rfl⟩
def nbad (n : Int) : Bool := decide (n < 0 ∨ 4611686018427387904 < n)
theorem put_num_bad {O : Ot} {n : Int} : (O.put (.num 0) (.int .i64 n)).bad = (O.bad || nbad n) := by
 rw [Ot.put_num]
 unfold nbad
 by_cases h : n < 0 ∨ 4611686018427387904 < n
 ·rw [if_pos h, decide_eq_true h]; simp
 ·rw [if_neg h, decide_eq_false h]; simp
theorem nums_bad {O : Ot} (ns : List Int) : (O.nums ns).bad = (O.bad || ns.any nbad) := by
 induction ns generalizing O with
 | nil => simp [Ot.nums]
 | cons n t ih =>
  have h1 := ih (O := O.put (.num 0) (.int .i64 n))
  show ((O.put (.num 0) (.int .i64 n)).nums t).bad = _
  rw [h1, put_num_bad, any_cons, Bool.or_assoc]
theorem put_txt_bad {O : Ot} {s : ByteArray} : (O.put (.txt 0 0) (.string s)).bad = O.bad := by
 show (O.bad || (encI (.txt 0 0) (.string s)).isNone) = _
 rw [show encI (.txt 0 0) (.string s) = some (encN s.data.toList.length ++ s.data.toList) from rfl]; simp
theorem put_tru_bad {O : Ot} {t : Bool} : (O.put (.tru 0) (.bool t)).bad = O.bad := by
 show (O.bad || (encI (.tru 0) (.bool t)).isNone) = _
 rw [show encI (.tru 0) (.bool t) = some (encN (if t = true then 1 else 0)) from rfl]; simp
def Ent.obad (e : Ent) : Bool := (e.six.any nbad || e.dp.ls.any nbad) || [e.cl, e.op].any nbad
theorem Ent.oput_bad {e : Ent} {O : Ot} : (e.oput O).bad = (O.bad || e.obad) := by
 unfold Ent.oput Ent.obad
 rw [nums_bad, nums_bad, put_tru_bad, put_txt_bad, put_txt_bad, nums_bad, Bool.or_assoc, Bool.or_assoc, Bool.or_assoc]
def Cfg.obad (c : Cfg) : Bool := (c.pre 4).any nbad || [c.le.nd, c.le.sn].any nbad
theorem Cfg.oput_bad {c : Cfg} {O : Ot} : (c.oput O).bad = (O.bad || c.obad) := by
 unfold Cfg.oput Cfg.obad
 rw [nums_bad, put_tru_bad, nums_bad, Bool.or_assoc]
def O1 (k : Int) : Ot := Ot.put {} (.num 0) (.int .i64 k)
theorem fold_1 (k : Int) (e : Ent) (c : Cfg) (b : Int) : (([It.num 0] ++ itsW 1).foldl (wstep (Rec.enc ⟨k, e, c, b⟩)) {}).ot = e.oput (O1 k) := by kernel_rfl
theorem fold_2 (k : Int) (e : Ent) (c : Cfg) (b : Int) : (([It.num 0] ++ (itsC 21 ++ [It.num 34])).foldl (wstep (Rec.enc ⟨k, e, c, b⟩)) {}).ot = (c.oput (O1 k)).put (.num 0) (.int .i64 b) := by kernel_rfl
theorem fold_3 (k : Int) (e : Ent) (c : Cfg) (b : Int) : ([It.num 0].foldl (wstep (Rec.enc ⟨k, e, c, b⟩)) {}).ot = O1 k := rfl
theorem long_1 (k : Int) (e : Ent) (c : Cfg) (b : Int) : (([It.num 0] ++ itsW 1).foldl (wstep (Rec.enc ⟨k, e, c, b⟩)) {}).long = decide (16 < e.key.size ∨ 32 < e.val.size) := by
 have : (([It.num 0] ++ itsW 1).foldl (wstep (Rec.enc ⟨k, e, c, b⟩)) {}).long = (((((((((((((((((((((false || false) || false) || false) || false) || false) || false) || false) || decide (16 < e.key.data.toList.length)) || decide (32 < e.val.data.toList.length)) || false) || false) || false) || false) || false) || false) || false) || false) || false) || false) || false) || false) := rfl
 rw [this]
 simp only [Bool.or_false, Bool.false_or]
 exact (Bool.decide_or _ _).symm
theorem long_2 (k : Int) (e : Ent) (c : Cfg) (b : Int) : (([It.num 0] ++ (itsC 21 ++ [It.num 34])).foldl (wstep (Rec.enc ⟨k, e, c, b⟩)) {}).long = false := rfl
theorem long_3 (k : Int) (e : Ent) (c : Cfg) (b : Int) : ([It.num 0].foldl (wstep (Rec.enc ⟨k, e, c, b⟩)) {}).long = false := rfl
end Go.Proofs.YtejfahjgfedliaaGreat

namespace Go.Proofs.YtejfahjgfedliaaGreat
open Go Go.Sl Go.Proofs.Tryz
theorem O1_bad {k : Int} (h0 : 0 ≤ k) (h1 : k ≤ 3) : (O1 k).bad = false := by
 unfold O1
 rw [put_num_bad]
 unfold nbad
 rw [decide_eq_false (by omega)]
 rfl
theorem Cd.ot_b (C : Cd) : C.ot.b = C.b := rfl
theorem Cd.ot_bad (C : Cd) : C.ot.bad = C.arg := rfl
theorem frRes_seen (F : Cd) (r : Rec) : frRes (F.seen r) = if ((F.arg || !r.known) || !decide (r.bare = r)) = true then ([], 1) else if F.long = true then ([], 42) else (frame F.b, 0) := rfl
theorem code_1 (e : Ent) (c : Cfg) (b : Int) : frRes (Rec.w ⟨1, e, c, b⟩) = if (e.obad || !decide (Rec.mk 1 e Cfg.z 0 = ⟨1, e, c, b⟩)) = true then ([], 1) else if (16 < e.key.size ∨ 32 < e.val.size) then ([], 42) else (frame (e.oput (O1 1)).b, 0) := by
 have h1 := fold_1 1 e c b
 have h2 := long_1 1 e c b
 have h3 : Rec.its 1 = [It.num 0] ++ itsW 1 := rfl
 unfold Rec.w
 rw [frRes_seen, h3]
 have ha : (([It.num 0] ++ itsW 1).foldl (wstep (Rec.enc ⟨1, e, c, b⟩)) {}).arg = e.obad := by
  have := congrArg Ot.bad h1
  rw [Ent.oput_bad, show (O1 1).bad = false from O1_bad (by decide) (by decide), Bool.false_or, Cd.ot_bad] at this
  exact this
 have hb : (([It.num 0] ++ itsW 1).foldl (wstep (Rec.enc ⟨1, e, c, b⟩)) {}).b = (e.oput (O1 1)).b := by
  have := congrArg Ot.b h1
  rw [Cd.ot_b] at this
  exact this
 have hk : Rec.known ⟨1, e, c, b⟩ = true := rfl
 have hbr : Rec.bare ⟨1, e, c, b⟩ = ⟨1, e, Cfg.z, 0⟩ := rfl
 rw [ha, h2, hb, hk, hbr]
 simp only [Bool.not_true, Bool.or_false, decide_eq_true_eq]
theorem code_2 (e : Ent) (c : Cfg) (b : Int) : frRes (Rec.w ⟨2, e, c, b⟩) = if ((c.obad || nbad b) || !decide (Rec.mk 2 Ent.z c b = ⟨2, e, c, b⟩)) = true then ([], 1) else (frame ((c.oput (O1 2)).put (.num 0) (.int .i64 b)).b, 0) := by
 have h1 := fold_2 2 e c b
 have h2 := long_2 2 e c b
 have h3 : Rec.its 2 = [It.num 0] ++ (itsC 21 ++ [It.num 34]) := rfl
 unfold Rec.w
 rw [frRes_seen, h3]
 have ha : (([It.num 0] ++ (itsC 21 ++ [It.num 34])).foldl (wstep (Rec.enc ⟨2, e, c, b⟩)) {}).arg = (c.obad || nbad b) := by
  have := congrArg Ot.bad h1
  rw [put_num_bad, Cfg.oput_bad, show (O1 2).bad = false from O1_bad (by decide) (by decide), Bool.false_or, Cd.ot_bad] at this
  exact this
 have hb : (([It.num 0] ++ (itsC 21 ++ [It.num 34])).foldl (wstep (Rec.enc ⟨2, e, c, b⟩)) {}).b = ((c.oput (O1 2)).put (.num 0) (.int .i64 b)).b := by
  have := congrArg Ot.b h1
  rw [Cd.ot_b] at this
  exact this
 have hk : Rec.known ⟨2, e, c, b⟩ = true := rfl
 have hbr : Rec.bare ⟨2, e, c, b⟩ = ⟨2, Ent.z, c, b⟩ := rfl
 rw [ha, h2, hb, hk, hbr]
 simp only [Bool.not_true, Bool.or_false, Bool.false_eq_true, if_false]
theorem code_3 (e : Ent) (c : Cfg) (b : Int) : frRes (Rec.w ⟨3, e, c, b⟩) = if (!decide (Rec.mk 3 Ent.z Cfg.z 0 = ⟨3, e, c, b⟩)) = true then ([], 1) else (frame (O1 3).b, 0) := by
 have h1 := fold_3 3 e c b
 have h2 := long_3 3 e c b
 have h3 : Rec.its 3 = [It.num 0] := rfl
 unfold Rec.w
 rw [frRes_seen, h3]
 have ha : ([It.num 0].foldl (wstep (Rec.enc ⟨3, e, c, b⟩)) {}).arg = false := by
  have := congrArg Ot.bad h1
  rw [show (O1 3).bad = false from O1_bad (by decide) (by decide), Cd.ot_bad] at this
  exact this
 have hb : ([It.num 0].foldl (wstep (Rec.enc ⟨3, e, c, b⟩)) {}).b = (O1 3).b := by
  have := congrArg Ot.b h1
  rw [Cd.ot_b] at this
  exact this
 have hk : Rec.known ⟨3, e, c, b⟩ = true := rfl
 have hbr : Rec.bare ⟨3, e, c, b⟩ = ⟨3, Ent.z, Cfg.z, 0⟩ := rfl
 rw [ha, h2, hb, hk, hbr]
 simp only [Bool.not_true, Bool.or_false, Bool.false_or, Bool.false_eq_true, if_false]
theorem code_x {k : Int} (e : Ent) (c : Cfg) (b : Int) (h1 : k ≠ 1) (h2 : k ≠ 2) (h3 : k ≠ 3) : frRes (Rec.w ⟨k, e, c, b⟩) = ([], 1) := by
 unfold Rec.w
 have hk : Rec.known ⟨k, e, c, b⟩ = false := by unfold Rec.known; exact decide_eq_false (by rintro (h | h | h) <;> contradiction)
 rw [frRes_seen, hk]
 simp
def Ent.tiny (e : Ent) : Ent := { e with key := ByteArray.empty, val := ByteArray.empty }
theorem tiny_bad (e : Ent) : (e.tiny.oput {}).bad = e.obad := by rw [Ent.oput_bad]; rfl
def RPost (F : List UInt8 × Int) : Value → HH → Prop := fun res H' => ∃ u hb, res = .tuple #[u, .int .i64 F.2] ∧ H' = [hb] ∧ IsSl 5 F.1 u hb
theorem Ent.oput_len {e : Ent} {O : Ot} (hk : e.key.data.toList.length ≤ 1073741824) (hv : e.val.data.toList.length ≤ 1073741824) : (e.oput O).b.length ≤ O.b.length + 2147483900 := by
 have l1 := nums_len (O := O) e.six
 rw [show e.six.length = 6 from rfl] at l1
 have l2 := txt_len (O := O.nums e.six) hk
 have l3 := txt_len (O := (O.nums e.six).put (.txt 0 0) (.string e.key)) hv
 have l4 := tru_len (O := ((O.nums e.six).put (.txt 0 0) (.string e.key)).put (.txt 0 0) (.string e.val)) (t := e.dead)
 have l5 := nums_len (O := (((O.nums e.six).put (.txt 0 0) (.string e.key)).put (.txt 0 0) (.string e.val)).put (.tru 0) (.bool e.dead)) e.dp.ls
 rw [show e.dp.ls.length = 9 from rfl] at l5
 have l6 := nums_len (O := ((((O.nums e.six).put (.txt 0 0) (.string e.key)).put (.txt 0 0) (.string e.val)).put (.tru 0) (.bool e.dead)).nums e.dp.ls) [e.cl, e.op]
 rw [show [e.cl, e.op].length = 2 from rfl] at l6
 unfold Ent.oput
 omega
theorem Cfg.oput_len {c : Cfg} {O : Ot} : (c.oput O).b.length ≤ O.b.length + 200 := by
 have l1 := nums_len (O := O) (c.pre 4)
 rw [show (c.pre 4).length = 10 from rfl] at l1
 have l2 := tru_len (O := O.nums (c.pre 4)) (t := c.jo)
 have l3 := nums_len (O := (O.nums (c.pre 4)).put (.tru 0) (.bool c.jo)) [c.le.nd, c.le.sn]
 rw [show [c.le.nd, c.le.sn].length = 2 from rfl] at l3
 unfold Cfg.oput
 omega
theorem O1_len {k : Int} : (O1 k).b.length ≤ 9 := by
 have := Ot.put_len (O := {}) (o := 0) (n := k)
 exact this
set_option maxHeartbeats 4000000 in
theorem orec1_ct (e : Ent) (cf : Cfg) (bs : Int) (hk : e.key.data.toList.length ≤ 1073741824) (hv : e.val.data.toList.length ≤ 1073741824) : Ct prog 154 [.agg (Rec.enc ⟨1, e, cf, bs⟩).toArray] [] (RPost (frRes (Rec.w ⟨1, e, cf, bs⟩))) := by
 rw [code_1]
 have hcmp := rec_eq ⟨1, e, cf, bs⟩ ⟨1, e, Cfg.z, 0⟩
 have l1 := O1_len (k := 1)
 have l2 := Ent.oput_len (O := O1 1) hk hv
 refine Ct.mk' func154 rfl rfl rfl (fun g R => ?_)
 try simp only [ca]
 simp only [na]
 repeat' (first | apply go | fail)
 refine WX.box (vs := Rec.enc ⟨1, e, cf, bs⟩) rfl rfl rfl (fun b => ?_)
 repeat' (first | refine WX.load (v := .int .i64 1) (b := b) (i := 0) (cs := Rec.enc ⟨1, e, cf, bs⟩) rfl rfl rfl ?_ | refine stp ?_ | refine bx rfl (fun _ => ?_) | refine al (fun _ => ?_) | fail)
 rename_i bw o
 refine WX.hp (H' := [OBk o {} (.slice none 0 0), [(bw, .cells (Rec.enc ⟨1, Ent.z, Cfg.z, 0⟩).toArray 108 (0, 0))], [(b, .cells (Rec.enc ⟨1, e, cf, bs⟩).toArray 108 (0, 0))], R]) rfl ?_
 refine WX.nilH ?_
 refine WX.call rfl (onum_ct (O := {}) (IsSl.nil _) (by decide) (n := 1)) rfl ?_
 rintro _ _ ⟨v1, h1, rfl, hs1⟩
 have hs1 : IsSl 5 (O1 1).b v1 h1 := hs1
 refine WX.hp (H' := [OBk o (O1 1) v1, h1, [(bw, .cells (Rec.enc ⟨1, Ent.z, Cfg.z, 0⟩).toArray 108 (0, 0))], [(b, .cells (Rec.enc ⟨1, e, cf, bs⟩).toArray 108 (0, 0))], R]) rfl ?_
 repeat' (first | refine WX.load (v := .int .i64 1) (b := b) (i := 0) (cs := Rec.enc ⟨1, e, cf, bs⟩) rfl rfl rfl ?_ | refine WX.loadA (b := b) (i := 1) (cs := Rec.enc ⟨1, e, cf, bs⟩) (vs := e.enc) rfl (Rec.cut_e _ _ _ _) rfl rfl ?_ | (refine I.st ?_; refine WX.storeG (vs := e.enc) (b := bw) (i := 1) (cs := Rec.enc ⟨1, Ent.z, Cfg.z, 0⟩) rfl rfl rfl (Ent.len20 _) (Ent.one _) rfl ?_; rw [Rec.put_e]) | refine stp ?_ | refine bx rfl (fun _ => ?_) | refine al (fun _ => ?_) | fail)
 rename_i bt pb
 refine WX.hp (H' := [OBk pb {} (.slice none 0 0), [(bt, .cells e.tiny.enc.toArray 43 (0, 0))], OBk o (O1 1) v1, h1, [(bw, .cells (Rec.enc ⟨1, e, Cfg.z, 0⟩).toArray 108 (0, 0))], [(b, .cells (Rec.enc ⟨1, e, cf, bs⟩).toArray 108 (0, 0))], R]) rfl ?_
 refine WX.as 31 (.agg e.tiny.enc.toArray) rfl rfl ?_
 refine WX.nilH ?_
 refine WX.call rfl (oent_ct (O := {}) (IsSl.nil _) (by decide) e.tiny (by show 0 ≤ 1073741824; decide) (by show 0 ≤ 1073741824; decide)) rfl ?_
 rintro _ _ ⟨v2, h2, rfl, -⟩
 have hbad := tiny_bad e
 generalize e.tiny.oput {} = P at *
 simp only [ca, na]
 cases hob : e.obad with
 | true =>
  rw [hob] at hbad
  rw [if_pos (by simp)]
  refine WX.hp (H' := [[(pb, .cells (List.toArray [v2, .bool true]) 232 (0, 0))], h2, [(bt, .cells e.tiny.enc.toArray 43 (0, 0))], OBk o (O1 1) v1, h1, [(bw, .cells (Rec.enc ⟨1, e, Cfg.z, 0⟩).toArray 108 (0, 0))], [(b, .cells (Rec.enc ⟨1, e, cf, bs⟩).toArray 108 (0, 0))], R]) (by rw [← hbad]) ?_
  try refine run ?_
  refine D.nilH ?_
  exact D.fin2 [[]] _ rfl rfl rfl ⟨_, _, rfl, rfl, IsSl.nil _⟩
 | false =>
  rw [hob] at hbad
  refine WX.hp (H' := [[(pb, .cells (List.toArray [v2, .bool false]) 232 (0, 0))], h2, [(bt, .cells e.tiny.enc.toArray 43 (0, 0))], OBk o (O1 1) v1, h1, [(bw, .cells (Rec.enc ⟨1, e, Cfg.z, 0⟩).toArray 108 (0, 0))], [(b, .cells (Rec.enc ⟨1, e, cf, bs⟩).toArray 108 (0, 0))], R]) (by rw [← hbad]) ?_
  by_cases heq : Rec.mk 1 e cf bs = ⟨1, e, Cfg.z, 0⟩
  ·rw [decide_eq_true heq] at hcmp
   rw [if_neg (by rw [decide_eq_true heq.symm]; simp)]
   repeat' (first | refine WX.loadA (b := b) (i := 0) (cs := Rec.enc ⟨1, e, cf, bs⟩) (vs := Rec.enc ⟨1, e, cf, bs⟩) rfl rfl rfl rfl ?_ | refine WX.loadA (b := bw) (i := 0) (cs := Rec.enc ⟨1, e, Cfg.z, 0⟩) (vs := Rec.enc ⟨1, e, Cfg.z, 0⟩) rfl rfl rfl rfl ?_ | refine WX.neqA rfl rfl hcmp rfl ?_ | refine stp ?_ | fail)
   refine I.bs ?_
   refine WX.lit (ys := [(⟨e.key⟩ : Sb)]) rfl rfl rfl rfl rfl rfl (by decide) rfl (fun v3 h3 hs3 => ?_)
   try refine run ?_
   refine I.bs ?_
   refine WX.lit (ys := [(⟨e.val⟩ : Sb)]) rfl rfl rfl rfl rfl rfl (by decide) rfl (fun v4 h4 hs4 => ?_)
   have hol := olong_ct hs3.rs hs4.rs
   by_cases hlong : 16 < e.key.size ∨ 32 < e.val.size
   ·rw [if_pos hlong]
    refine WX.callQ rfl (Ct.mono hol (post' := fun r H' => r = .bool true ∧ H' = [h3, h4]) (fun r H' p => ⟨p.1.trans (congrArg _ (decide_eq_true hlong)), p.2⟩)) rfl ?_
    try refine run ?_
    refine D.nilH ?_
    exact D.fin2 [[]] _ rfl rfl rfl ⟨_, _, rfl, rfl, IsSl.nil _⟩
   ·rw [if_neg hlong]
    refine WX.callQ rfl (Ct.mono hol (post' := fun r H' => r = .bool false ∧ H' = [h3, h4]) (fun r H' p => ⟨p.1.trans (congrArg _ (decide_eq_false hlong)), p.2⟩)) rfl ?_
    repeat' (first | refine WX.load (v := .int .i64 1) (b := b) (i := 0) (cs := Rec.enc ⟨1, e, cf, bs⟩) rfl rfl rfl ?_ | refine WX.loadA (b := b) (i := 1) (cs := Rec.enc ⟨1, e, cf, bs⟩) (vs := e.enc) rfl (Rec.cut_e _ _ _ _) rfl rfl ?_ | refine stp ?_ | fail)
    refine WX.call rfl (oent_ct hs1 (by omega) e hk hv) rfl ?_
    rintro _ _ ⟨v5, h5, rfl, hs5⟩
    generalize e.oput (O1 1) = S at *
    simp only [ca, na]
    repeat' (first | refine WX.load (v := .int .i64 1) (b := b) (i := 0) (cs := Rec.enc ⟨1, e, cf, bs⟩) rfl rfl rfl ?_ | refine stp ?_ | fail)
    refine WX.call rfl (oframe_ct hs5.rs (by omega)) rfl ?_
    rintro u6 _ ⟨h6, rfl, hs6⟩
    simp only [ca, na]
    try refine run ?_
    exact D.fin2 [h6] _ rfl rfl rfl ⟨_, _, rfl, rfl, hs6⟩
  ·rw [decide_eq_false heq] at hcmp
   rw [if_pos (by rw [decide_eq_false (fun h => heq h.symm)]; simp)]
   repeat' (first | refine WX.loadA (b := b) (i := 0) (cs := Rec.enc ⟨1, e, cf, bs⟩) (vs := Rec.enc ⟨1, e, cf, bs⟩) rfl rfl rfl rfl ?_ | refine WX.loadA (b := bw) (i := 0) (cs := Rec.enc ⟨1, e, Cfg.z, 0⟩) (vs := Rec.enc ⟨1, e, Cfg.z, 0⟩) rfl rfl rfl rfl ?_ | refine WX.neqA rfl rfl hcmp rfl ?_ | refine stp ?_ | fail)
   refine D.nilH ?_
   exact D.fin2 [[]] _ rfl rfl rfl ⟨_, _, rfl, rfl, IsSl.nil _⟩
set_option maxHeartbeats 4000000 in
theorem orec2_ct (e : Ent) (cf : Cfg) (bs : Int) : Ct prog 154 [.agg (Rec.enc ⟨2, e, cf, bs⟩).toArray] [] (RPost (frRes (Rec.w ⟨2, e, cf, bs⟩))) := by
 rw [code_2]
 have hcmp := rec_eq ⟨2, e, cf, bs⟩ ⟨2, Ent.z, cf, bs⟩
 have l1 := O1_len (k := 2)
 have l2 := Cfg.oput_len (c := cf) (O := O1 2)
 have l3 := Cfg.oput_len (c := cf) (O := {})
 have l0 : ({} : Ot).b.length = 0 := rfl
 have hbad1 : ((cf.oput {}).put (.num 0) (.int .i64 bs)).bad = (cf.obad || nbad bs) := by rw [put_num_bad, Cfg.oput_bad]; rfl
 refine Ct.mk' func154 rfl rfl rfl (fun g R => ?_)
 try simp only [ca]
 simp only [na]
 repeat' (first | apply go | fail)
 refine WX.box (vs := Rec.enc ⟨2, e, cf, bs⟩) rfl rfl rfl (fun b => ?_)
 repeat' (first | refine WX.load (v := .int .i64 2) (b := b) (i := 0) (cs := Rec.enc ⟨2, e, cf, bs⟩) rfl rfl rfl ?_ | refine stp ?_ | refine bx rfl (fun _ => ?_) | refine al (fun _ => ?_) | fail)
 rename_i bw o
 refine WX.hp (H' := [OBk o {} (.slice none 0 0), [(bw, .cells (Rec.enc ⟨2, Ent.z, Cfg.z, 0⟩).toArray 108 (0, 0))], [(b, .cells (Rec.enc ⟨2, e, cf, bs⟩).toArray 108 (0, 0))], R]) rfl ?_
 refine WX.nilH ?_
 refine WX.call rfl (onum_ct (O := {}) (IsSl.nil _) (by decide) (n := 2)) rfl ?_
 rintro _ _ ⟨v1, h1, rfl, hs1⟩
 have hs1 : IsSl 5 (O1 2).b v1 h1 := hs1
 refine WX.hp (H' := [OBk o (O1 2) v1, h1, [(bw, .cells (Rec.enc ⟨2, Ent.z, Cfg.z, 0⟩).toArray 108 (0, 0))], [(b, .cells (Rec.enc ⟨2, e, cf, bs⟩).toArray 108 (0, 0))], R]) rfl ?_
 repeat' (first | refine WX.load (v := .int .i64 2) (b := b) (i := 0) (cs := Rec.enc ⟨2, e, cf, bs⟩) rfl rfl rfl ?_ | refine WX.load (v := .int .i64 bs) (b := b) (i := 34) (cs := Rec.enc ⟨2, e, cf, bs⟩) rfl rfl rfl ?_ | refine WX.loadA (b := b) (i := 1) (cs := Rec.enc ⟨2, e, cf, bs⟩) (vs := e.enc) rfl (Rec.cut_e _ _ _ _) rfl rfl ?_ | refine WX.loadA (b := b) (i := 21) (cs := Rec.enc ⟨2, e, cf, bs⟩) (vs := cf.enc) rfl (Rec.cut_c _ _ _ _) rfl rfl ?_ | (refine I.st ?_; refine WX.storeG (vs := cf.enc) (b := bw) (i := 21) (cs := Rec.enc ⟨2, Ent.z, Cfg.z, 0⟩) rfl rfl rfl (Cfg.len13 _) (Cfg.one _) rfl ?_; rw [Rec.put_c]) | (refine I.st ?_; refine WX.store (v := .int .i64 bs) (b := bw) (i := 34) (cs := Rec.enc ⟨2, Ent.z, cf, 0⟩) rfl rfl rfl rfl ?_; rw [Rec.put_b]) | refine stp ?_ | refine bx rfl (fun _ => ?_) | refine al (fun _ => ?_) | fail)
 rename_i bt pb
 refine WX.hp (H' := [OBk pb {} (.slice none 0 0), [(bt, .cells e.tiny.enc.toArray 43 (0, 0))], OBk o (O1 2) v1, h1, [(bw, .cells (Rec.enc ⟨2, Ent.z, cf, bs⟩).toArray 108 (0, 0))], [(b, .cells (Rec.enc ⟨2, e, cf, bs⟩).toArray 108 (0, 0))], R]) rfl ?_
 refine WX.nilH ?_
 refine WX.call rfl (ocfg_ct (O := {}) (IsSl.nil _) (by decide) cf) rfl ?_
 rintro _ _ ⟨v3, h3, rfl, hs3⟩
 generalize cf.oput {} = P0 at *
 simp only [ca, na]
 repeat' (first | refine WX.load (v := .int .i64 bs) (b := b) (i := 34) (cs := Rec.enc ⟨2, e, cf, bs⟩) rfl rfl rfl ?_ | refine stp ?_ | fail)
 refine WX.call rfl (onum_ct hs3 (by omega) (n := bs)) rfl ?_
 rintro _ _ ⟨v2, h2, rfl, -⟩
 have hbad := hbad1
 generalize P0.put (.num 0) (.int .i64 bs) = P at *
 simp only [ca, na]
 cases hob : (cf.obad || nbad bs) with
 | true =>
  rw [hob] at hbad
  rw [if_pos (by simp)]
  refine WX.hp (H' := [[(pb, .cells (List.toArray [v2, .bool true]) 232 (0, 0))], h2, [(bt, .cells e.tiny.enc.toArray 43 (0, 0))], OBk o (O1 2) v1, h1, [(bw, .cells (Rec.enc ⟨2, Ent.z, cf, bs⟩).toArray 108 (0, 0))], [(b, .cells (Rec.enc ⟨2, e, cf, bs⟩).toArray 108 (0, 0))], R]) (by rw [← hbad]) ?_
  try refine run ?_
  refine D.nilH ?_
  exact D.fin2 [[]] _ rfl rfl rfl ⟨_, _, rfl, rfl, IsSl.nil _⟩
 | false =>
  rw [hob] at hbad
  refine WX.hp (H' := [[(pb, .cells (List.toArray [v2, .bool false]) 232 (0, 0))], h2, [(bt, .cells e.tiny.enc.toArray 43 (0, 0))], OBk o (O1 2) v1, h1, [(bw, .cells (Rec.enc ⟨2, Ent.z, cf, bs⟩).toArray 108 (0, 0))], [(b, .cells (Rec.enc ⟨2, e, cf, bs⟩).toArray 108 (0, 0))], R]) (by rw [← hbad]) ?_
  by_cases heq : Rec.mk 2 e cf bs = ⟨2, Ent.z, cf, bs⟩
  ·rw [decide_eq_true heq] at hcmp
   rw [if_neg (by rw [decide_eq_true heq.symm]; simp)]
   have hez : e = Ent.z := by simpa using heq
   repeat' (first | refine WX.loadA (b := b) (i := 0) (cs := Rec.enc ⟨2, e, cf, bs⟩) (vs := Rec.enc ⟨2, e, cf, bs⟩) rfl rfl rfl rfl ?_ | refine WX.loadA (b := bw) (i := 0) (cs := Rec.enc ⟨2, Ent.z, cf, bs⟩) (vs := Rec.enc ⟨2, Ent.z, cf, bs⟩) rfl rfl rfl rfl ?_ | refine WX.neqA rfl rfl hcmp rfl ?_ | refine stp ?_ | fail)
   refine I.bs ?_
   refine WX.lit (ys := [(⟨e.key⟩ : Sb)]) rfl rfl rfl rfl rfl rfl (by decide) rfl (fun v3 h3 hs3 => ?_)
   try refine run ?_
   refine I.bs ?_
   refine WX.lit (ys := [(⟨e.val⟩ : Sb)]) rfl rfl rfl rfl rfl rfl (by decide) rfl (fun v4 h4 hs4 => ?_)
   have hol := olong_ct hs3.rs hs4.rs
   have hlong : ¬ (16 < e.key.size ∨ 32 < e.val.size) := by rw [hez]; decide
   refine WX.callQ rfl (Ct.mono hol (post' := fun r H' => r = .bool false ∧ H' = [_, h4]) (fun r H' p => ⟨p.1.trans (congrArg _ (decide_eq_false hlong)), p.2⟩)) rfl ?_
   repeat' (first | refine WX.load (v := .int .i64 2) (b := b) (i := 0) (cs := Rec.enc ⟨2, e, cf, bs⟩) rfl rfl rfl ?_ | refine WX.loadA (b := b) (i := 21) (cs := Rec.enc ⟨2, e, cf, bs⟩) (vs := cf.enc) rfl (Rec.cut_c _ _ _ _) rfl rfl ?_ | refine stp ?_ | fail)
   refine WX.call rfl (ocfg_ct hs1 (by omega) cf) rfl ?_
   rintro _ _ ⟨v5, h5, rfl, hs5⟩
   generalize cf.oput (O1 2) = S at *
   simp only [ca, na]
   repeat' (first | refine WX.load (v := .int .i64 bs) (b := b) (i := 34) (cs := Rec.enc ⟨2, e, cf, bs⟩) rfl rfl rfl ?_ | refine stp ?_ | fail)
   refine WX.call rfl (onum_ct hs5 (by omega) (n := bs)) rfl ?_
   rintro _ _ ⟨v7, h7, rfl, hs7⟩
   have l4 := S.put_len (o := 0) (n := bs)
   generalize S.put (.num 0) (.int .i64 bs) = T at *
   simp only [ca, na]
   repeat' (first | refine stp ?_ | fail)
   refine WX.call rfl (oframe_ct hs7.rs (by omega)) rfl ?_
   rintro u6 _ ⟨h6, rfl, hs6⟩
   simp only [ca, na]
   try refine run ?_
   exact D.fin2 [h6] _ rfl rfl rfl ⟨_, _, rfl, rfl, hs6⟩
  ·rw [decide_eq_false heq] at hcmp
   rw [if_pos (by rw [decide_eq_false (fun h => heq h.symm)]; simp)]
   repeat' (first | refine WX.loadA (b := b) (i := 0) (cs := Rec.enc ⟨2, e, cf, bs⟩) (vs := Rec.enc ⟨2, e, cf, bs⟩) rfl rfl rfl rfl ?_ | refine WX.loadA (b := bw) (i := 0) (cs := Rec.enc ⟨2, Ent.z, cf, bs⟩) (vs := Rec.enc ⟨2, Ent.z, cf, bs⟩) rfl rfl rfl rfl ?_ | refine WX.neqA rfl rfl hcmp rfl ?_ | refine stp ?_ | fail)
   refine D.nilH ?_
   exact D.fin2 [[]] _ rfl rfl rfl ⟨_, _, rfl, rfl, IsSl.nil _⟩
set_option maxHeartbeats 4000000 in
theorem orec3_ct (e : Ent) (cf : Cfg) (bs : Int) : Ct prog 154 [.agg (Rec.enc ⟨3, e, cf, bs⟩).toArray] [] (RPost (frRes (Rec.w ⟨3, e, cf, bs⟩))) := by
 rw [code_3]
 have hcmp := rec_eq ⟨3, e, cf, bs⟩ ⟨3, Ent.z, Cfg.z, 0⟩
 have l1 := O1_len (k := 3)
 refine Ct.mk' func154 rfl rfl rfl (fun g R => ?_)
 try simp only [ca]
 simp only [na]
 by_cases heq : Rec.mk 3 e cf bs = ⟨3, Ent.z, Cfg.z, 0⟩
 ·rw [decide_eq_true heq] at hcmp
  rw [if_neg (by rw [decide_eq_true heq.symm]; simp)]
  have hez : e = Ent.z := by
   simp only [Rec.mk.injEq, true_and] at heq
   exact heq.1
  repeat' (first | apply go | fail)
  refine WX.box (vs := Rec.enc ⟨3, e, cf, bs⟩) rfl rfl rfl (fun b => ?_)
  repeat' (first | refine WX.load (v := .int .i64 3) (b := b) (i := 0) (cs := Rec.enc ⟨3, e, cf, bs⟩) rfl rfl rfl ?_ | refine stp ?_ | refine bx rfl (fun _ => ?_) | refine al (fun _ => ?_) | fail)
  rename_i bw o
  refine WX.hp (H' := [OBk o {} (.slice none 0 0), [(bw, .cells (Rec.enc ⟨3, Ent.z, Cfg.z, 0⟩).toArray 108 (0, 0))], [(b, .cells (Rec.enc ⟨3, e, cf, bs⟩).toArray 108 (0, 0))], R]) rfl ?_
  refine WX.nilH ?_
  refine WX.call rfl (onum_ct (O := {}) (IsSl.nil _) (by decide) (n := 3)) rfl ?_
  rintro _ _ ⟨v1, h1, rfl, hs1⟩
  have hs1 : IsSl 5 (O1 3).b v1 h1 := hs1
  refine WX.hp (H' := [OBk o (O1 3) v1, h1, [(bw, .cells (Rec.enc ⟨3, Ent.z, Cfg.z, 0⟩).toArray 108 (0, 0))], [(b, .cells (Rec.enc ⟨3, e, cf, bs⟩).toArray 108 (0, 0))], R]) rfl ?_
  repeat' (first | refine WX.load (v := .int .i64 3) (b := b) (i := 0) (cs := Rec.enc ⟨3, e, cf, bs⟩) rfl rfl rfl ?_ | refine WX.loadA (b := b) (i := 1) (cs := Rec.enc ⟨3, e, cf, bs⟩) (vs := e.enc) rfl (Rec.cut_e _ _ _ _) rfl rfl ?_ | refine WX.loadA (b := b) (i := 0) (cs := Rec.enc ⟨3, e, cf, bs⟩) (vs := Rec.enc ⟨3, e, cf, bs⟩) rfl rfl rfl rfl ?_ | refine WX.loadA (b := bw) (i := 0) (cs := Rec.enc ⟨3, Ent.z, Cfg.z, 0⟩) (vs := Rec.enc ⟨3, Ent.z, Cfg.z, 0⟩) rfl rfl rfl rfl ?_ | refine WX.neqA rfl rfl hcmp rfl ?_ | refine stp ?_ | refine bx rfl (fun _ => ?_) | refine al (fun _ => ?_) | fail)
  rename_i bt pb
  refine I.bs ?_
  refine WX.lit (ys := [(⟨e.key⟩ : Sb)]) rfl rfl rfl rfl rfl rfl (by decide) rfl (fun v3 h3 hs3 => ?_)
  try refine run ?_
  refine I.bs ?_
  refine WX.lit (ys := [(⟨e.val⟩ : Sb)]) rfl rfl rfl rfl rfl rfl (by decide) rfl (fun v4 h4 hs4 => ?_)
  have hol := olong_ct hs3.rs hs4.rs
  have hlong : ¬ (16 < e.key.size ∨ 32 < e.val.size) := by rw [hez]; decide
  refine WX.callQ rfl (Ct.mono hol (post' := fun r H' => r = .bool false ∧ H' = [h3, h4]) (fun r H' p => ⟨p.1.trans (congrArg _ (decide_eq_false hlong)), p.2⟩)) rfl ?_
  repeat' (first | refine WX.load (v := .int .i64 3) (b := b) (i := 0) (cs := Rec.enc ⟨3, e, cf, bs⟩) rfl rfl rfl ?_ | refine stp ?_ | fail)
  refine WX.call rfl (oframe_ct hs1.rs (by omega)) rfl ?_
  rintro u6 _ ⟨h6, rfl, hs6⟩
  simp only [ca, na]
  try refine run ?_
  exact D.fin2 [h6] _ rfl rfl rfl ⟨_, _, rfl, rfl, hs6⟩
 ·rw [decide_eq_false heq] at hcmp
  rw [if_pos (by rw [decide_eq_false (fun h => heq h.symm)]; simp)]
  repeat' (first | apply go | fail)
  refine WX.box (vs := Rec.enc ⟨3, e, cf, bs⟩) rfl rfl rfl (fun b => ?_)
  repeat' (first | refine WX.load (v := .int .i64 3) (b := b) (i := 0) (cs := Rec.enc ⟨3, e, cf, bs⟩) rfl rfl rfl ?_ | refine stp ?_ | refine bx rfl (fun _ => ?_) | refine al (fun _ => ?_) | fail)
  rename_i bw o
  refine WX.hp (H' := [OBk o {} (.slice none 0 0), [(bw, .cells (Rec.enc ⟨3, Ent.z, Cfg.z, 0⟩).toArray 108 (0, 0))], [(b, .cells (Rec.enc ⟨3, e, cf, bs⟩).toArray 108 (0, 0))], R]) rfl ?_
  refine WX.nilH ?_
  refine WX.call rfl (onum_ct (O := {}) (IsSl.nil _) (by decide) (n := 3)) rfl ?_
  rintro _ _ ⟨v1, h1, rfl, hs1⟩
  have hs1 : IsSl 5 (O1 3).b v1 h1 := hs1
  refine WX.hp (H' := [OBk o (O1 3) v1, h1, [(bw, .cells (Rec.enc ⟨3, Ent.z, Cfg.z, 0⟩).toArray 108 (0, 0))], [(b, .cells (Rec.enc ⟨3, e, cf, bs⟩).toArray 108 (0, 0))], R]) rfl ?_
  repeat' (first | refine WX.load (v := .int .i64 3) (b := b) (i := 0) (cs := Rec.enc ⟨3, e, cf, bs⟩) rfl rfl rfl ?_ | refine WX.loadA (b := b) (i := 1) (cs := Rec.enc ⟨3, e, cf, bs⟩) (vs := e.enc) rfl (Rec.cut_e _ _ _ _) rfl rfl ?_ | refine WX.loadA (b := b) (i := 0) (cs := Rec.enc ⟨3, e, cf, bs⟩) (vs := Rec.enc ⟨3, e, cf, bs⟩) rfl rfl rfl rfl ?_ | refine WX.loadA (b := bw) (i := 0) (cs := Rec.enc ⟨3, Ent.z, Cfg.z, 0⟩) (vs := Rec.enc ⟨3, Ent.z, Cfg.z, 0⟩) rfl rfl rfl rfl ?_ | refine WX.neqA rfl rfl hcmp rfl ?_ | refine stp ?_ | refine bx rfl (fun _ => ?_) | refine al (fun _ => ?_) | fail)
  rename_i bt pb
  refine D.nilH ?_
  exact D.fin2 [[]] _ rfl rfl rfl ⟨_, _, rfl, rfl, IsSl.nil _⟩
set_option maxHeartbeats 4000000 in
theorem orecx_ct {k : Int} (e : Ent) (cf : Cfg) (bs : Int) (n1 : k ≠ 1) (n2 : k ≠ 2) (n3 : k ≠ 3) : Ct prog 154 [.agg (Rec.enc ⟨k, e, cf, bs⟩).toArray] [] (RPost (frRes (Rec.w ⟨k, e, cf, bs⟩))) := by
 rw [code_x e cf bs n1 n2 n3]
 refine Ct.mk' func154 rfl rfl rfl (fun g R => ?_)
 try simp only [ca]
 simp only [na]
 repeat' (first | apply go | fail)
 refine WX.box (vs := Rec.enc ⟨k, e, cf, bs⟩) rfl rfl rfl (fun b => ?_)
 repeat' (first | refine WX.load (v := .int .i64 k) (b := b) (i := 0) (cs := Rec.enc ⟨k, e, cf, bs⟩) rfl rfl rfl ?_ | refine stp ?_ | refine bx rfl (fun _ => ?_) | refine al (fun _ => ?_) | fail)
 rename_i bw o
 refine WX.hp (H' := [OBk o {} (.slice none 0 0), [(bw, .cells (Rec.enc ⟨k, Ent.z, Cfg.z, 0⟩).toArray 108 (0, 0))], [(b, .cells (Rec.enc ⟨k, e, cf, bs⟩).toArray 108 (0, 0))], R]) rfl ?_
 refine WX.nilH ?_
 refine WX.call rfl (onum_ct (O := {}) (IsSl.nil _) (by decide) (n := k)) rfl ?_
 rintro _ _ ⟨v1, h1, rfl, hs1⟩
 have hs1 : IsSl 5 (O1 k).b v1 h1 := hs1
 refine WX.hp (H' := [OBk o (O1 k) v1, h1, [(bw, .cells (Rec.enc ⟨k, Ent.z, Cfg.z, 0⟩).toArray 108 (0, 0))], [(b, .cells (Rec.enc ⟨k, e, cf, bs⟩).toArray 108 (0, 0))], R]) rfl ?_
 repeat' (first | refine WX.load (v := .int .i64 k) (b := b) (i := 0) (cs := Rec.enc ⟨k, e, cf, bs⟩) rfl rfl rfl ?_ | refine WX.loadA (b := b) (i := 1) (cs := Rec.enc ⟨k, e, cf, bs⟩) (vs := e.enc) rfl (Rec.cut_e _ _ _ _) rfl rfl ?_ | refine stp ?_ | refine bx rfl (fun _ => ?_) | refine al (fun _ => ?_) | fail)
 rename_i bt pb
 refine D.nilH ?_
 exact D.fin2 [[]] _ rfl rfl rfl ⟨_, _, rfl, rfl, IsSl.nil _⟩
theorem orec_ct (r : Rec) (hz : r.size ≤ 1073741824) : Ct prog 154 [.agg r.enc.toArray] [] (fun res H' => ∃ u hb, res = .tuple #[u, .int .i64 r.code] ∧ H' = [hb] ∧ IsSl 5 r.fr u hb) := by
 obtain ⟨k, e, cf, bs⟩ := r
 unfold Rec.size at hz
 simp only [] at hz
 by_cases n1 : k = 1
 ·subst n1; exact orec1_ct e cf bs (by omega) (by omega)
 by_cases n2 : k = 2
 ·subst n2; exact orec2_ct e cf bs
 by_cases n3 : k = 3
 ·subst n3; exact orec3_ct e cf bs
 exact orecx_ct e cf bs n1 n2 n3
end Go.Proofs.YtejfahjgfedliaaGreat

namespace Go.Proofs.YtejfahjgfedliaaGreat
open Go Go.Sl Go.Proofs.Tryz List
abbrev IBk (o : Nat) (v : Value) (p : Nat) : Hp := [(o, .cells (List.toArray [v, .int .i64 (p : Int), .bool false]) 195 (0, 0))]
def IPost (o : Nat) (v : Value) (h : Hp) (p : Nat) (u : Value) : Value → HH → Prop := fun r H' => r = u ∧ H' = [IBk o v p, h]
set_option maxHeartbeats 1000000 in
theorem inext_ct {B : List UInt8} {v : Value} {h : Hp} (hr : Rs B v h) {p : Nat} {x : UInt8} (hx : B[p]? = some x) (hl : B.length ≤ 1099511627776) {o : Nat} :
  Ct prog 193 [.pointer (some ⟨o, 0, none⟩)] [IBk o v p, h] (IPost o v h (p + 1) (.int .u8 (x.toNat : Int))) := by
 have hlt := (List.getElem?_eq_some_iff.1 hx).1
 obtain ⟨q, c, rfl⟩ := hr.len
 have hx' : B[((p : Int) + 1 - 1).toNat]? = some x := by rw [show ((p : Int) + 1 - 1).toNat = p by omega]; exact hx
 refine Ct.mk' func193 rfl rfl rfl (fun g R => ?_)
 try simp only [ca]
 simp only [na]
 try refine run ?_
 refine W.quiet Tryz.mix (by kernel_rfl) ?_
 try refine run ?_
 refine W.quiet Tryz.mix (by kernel_rfl) ?_
 try refine run ?_
 refine D.hp (H' := [IBk o (.slice q B.length c) (p + 1), h, R]) rfl ?_
 exact D.fin1 [IBk o (.slice q B.length c) (p + 1), h] _ rfl rfl ⟨rfl, rfl⟩
theorem and127 (x : Nat) : x &&& 127 = x % 128 := Nat.and_two_pow_sub_one_eq_mod x 7
set_option maxRecDepth 20000 in
set_option maxHeartbeats 2000000 in
theorem inum_ct {B : List UInt8} {v : Value} {h : Hp} (hs : Rs B v h) {n : Nat} (hn : n ≤ 4611686018427387904) {p : Nat} {rest : List UInt8} (hd : B.drop p = encN n ++ rest) (hl : B.length ≤ 1099511627776) {o : Nat} :
  Ct prog 149 [.pointer (some ⟨o, 0, none⟩)] [IBk o v p, h] (IPost o v h (p + (encN n).length) (.int .i64 (n : Int))) := by
 refine Ct.mk' func149 rfl rfl rfl (fun g R => ?_)
 try simp only [ca]
 simp only [na]
 try refine run ?_
 refine W.as 3 (.int .u64 ((n % 128 ^ 0 : Nat) : Int)) rfl (by rw [Nat.pow_zero, Nat.mod_one]; rfl) ?_
 refine W.loop (α := Nat) (fun i => i = 0 ∨ 1 ≤ n / 128 ^ i) (fun i => [(0, .pointer (some ⟨o, 0, none⟩)), (3, .int .u64 ((n % 128 ^ i : Nat) : Int)), (4, .int .i64 (i : Int))]) (fun i => [IBk o v (p + i), h, R]) (fun i => 9 - i) 0 (.inl rfl) (by repeat (first | exact Fsub.nil | refine Fsub.cons rfl ?_)) (Hsub.of_picks inferInstance) ?_
 intro i hi
 have hi8 := le8 hn hi
 obtain ⟨pre, hpl, hpe⟩ := encN_at i n hi
 have hlen : (encN n).length = i + (encN (n / 128 ^ i)).length := by rw [hpe, length_append, hpl]
 have hdi : B.drop (p + i) = encN (n / 128 ^ i) ++ rest := by
  rw [← drop_drop, hd, hpe, append_assoc, drop_append_of_le_length (by omega), ← hpl, drop_length]; rfl
 have hpi : p + i < B.length := by
  have := congrArg List.length hdi
  rw [length_drop, length_append] at this
  have := encN_pos (n / 128 ^ i)
  omega
 have hmn : n % 128 ^ i ≤ n := Nat.mod_le _ _
 have hsu : n % 128 ^ (i + 1) = n % 128 ^ i + n / 128 ^ i % 128 * 2 ^ (7 * i) := by rw [pow128, Nat.pow_succ, Nat.mod_mul, Nat.mul_comm (128 ^ i)]
 have hmn1 : n % 128 ^ (i + 1) ≤ n := Nat.mod_le _ _
 have hb : n / 128 ^ i % 128 * 2 ^ (7 * i) ≤ 4611686018427387904 := by omega
 have h7 : 7 * i ≤ IntKind.u64.bits := by show 7 * i ≤ 64; omega
 generalize hm : n / 128 ^ i = m at *
 obtain ⟨x, hx⟩ : ∃ x, B[p + i]? = some x := ⟨_, List.getElem?_eq_getElem hpi⟩
 have hx0 : (encN m ++ rest)[0]? = some x := by rw [← hdi, List.getElem?_drop]; exact hx
 have hxb := byte_lt x
 have hxm : x.toNat % 128 = m % 128 ∧ (m < 128 → x.toNat = m) ∧ (¬ m < 128 → 128 ≤ x.toNat) := by
  by_cases hge : m < 128
  ·rw [encN_lt hge] at hx0
   have h1 : UInt8.ofNat m = x := by simpa using hx0
   have h2 : x.toNat = m := by rw [← h1, byte_ofNat (by omega)]
   exact ⟨by rw [h2], fun _ => h2, fun h => absurd hge h⟩
  ·rw [encN_ge hge] at hx0
   have h1 : UInt8.ofNat (128 + m % 128) = x := by simpa using hx0
   have h2 : x.toNat = 128 + m % 128 := by rw [← h1, byte_ofNat (by omega)]
   exact ⟨by omega, fun h => absurd h hge, fun _ => by omega⟩
 try refine run ?_
 refine WX.call rfl (inext_ct hs hx hl) rfl ?_
 rintro _ _ ⟨rfl, rfl⟩
 simp only [ca, na]
 repeat' (first | refine run ?_ | refine WX.and8 (b := 127) rfl rfl hxb (by decide) rfl ?_ | fail)
 refine WX.as 14 (.int .u8 ((m % 128 : Nat) : Int)) rfl (by rw [and127, hxm.1]) ?_
 refine WX.conv rfl rfl (IntWalk.u64_in _ (by omega)) ?_
 repeat' (first | refine run ?_ | refine WX.mul rfl rfl rfl (by omega) ?_ | fail)
 refine WX.as 17 (.int .i64 ((7 * i : Nat) : Int)) rfl (by congr 1) ?_
 refine WX.shlN rfl rfl h7 (IntWalk.u64_in _ ⟨Int.natCast_nonneg _, Int.le_trans (Int.ofNat_le.2 hb) (by decide)⟩) rfl ?_
 refine WX.addW rfl rfl rfl ?_
 refine WX.as 19 (.int .u64 ((n % 128 ^ (i + 1) : Nat) : Int)) rfl (by rw [← Int.natCast_add, ← hsu]; exact congrArg _ (IntWalk.u64_in _ (by omega))) ?_
 by_cases hge : m < 128
 ·have hx2 := hxm.2.1 hge
  have hnn : n % 128 ^ (i + 1) = n := by
   refine Nat.mod_eq_of_lt ?_
   rw [Nat.pow_succ, Nat.mul_comm, ← Nat.div_lt_iff_lt_mul (Nat.pow_pos (by decide)), hm]
   exact hge
  have hl1 : (encN n).length = i + 1 := by rw [hlen, encN_lt hge]; rfl
  rw [hl1, show p + (i + 1) = p + i + 1 from rfl]
  by_cases hm0 : m = 0
  ·have hi0 : i = 0 := by omega
   repeat' (first | refine run ?_ | refine WX.conv rfl rfl (IntWalk.i64_in _ (by omega)) ?_ | fail)
   exact D.fin1 [IBk o v (p + i + 1), h] _ rfl rfl ⟨by rw [hnn], rfl⟩
  ·skip
   repeat' (first | refine run ?_ | refine WX.conv rfl rfl (IntWalk.i64_in _ (by omega)) ?_ | fail)
   exact D.fin1 [IBk o v (p + i + 1), h] _ rfl rfl ⟨by rw [hnn], rfl⟩
 ·have hx2 := hxm.2.2 hge
  try refine run ?_
  exact D.rd (i + 1) (.inr (by rw [Nat.pow_succ, ← Nat.div_div_eq_div_mul, hm]; omega)) (by omega)
theorem itru_ct {B : List UInt8} {v : Value} {h : Hp} (hs : Rs B v h) {t : Bool} {p : Nat} {rest : List UInt8} (hd : B.drop p = encN (if t = true then 1 else 0) ++ rest) (hl : B.length ≤ 1099511627776) {o : Nat} :
  Ct prog 195 [.pointer (some ⟨o, 0, none⟩)] [IBk o v p, h] (IPost o v h (p + (encN (if t = true then 1 else 0)).length) (.bool t)) := by
 have hx : B[p]? = some (if t = true then 1 else 0) := by
  have : (B.drop p)[0]? = some (if t = true then 1 else 0) := by
   rw [hd]
   cases t
   ·rw [if_neg (by decide), encN_lt (by decide)]; rfl
   ·rw [if_pos rfl, encN_lt (by decide)]; rfl
  rwa [List.getElem?_drop] at this
 have hl1 : (encN (if t = true then 1 else 0)).length = 1 := by
  cases t
  ·rw [if_neg (by decide), encN_lt (by decide)]; rfl
  ·rw [if_pos rfl, encN_lt (by decide)]; rfl
 rw [hl1]
 refine Ct.mk' func195 rfl rfl rfl (fun g R => ?_)
 try simp only [ca]
 simp only [na]
 try refine run ?_
 refine WX.call rfl (inext_ct hs hx hl) rfl ?_
 rintro _ _ ⟨rfl, rfl⟩
 simp only [ca, na]
 cases t with
 | true =>
  rw [show (((if true = true then 1 else 0 : UInt8).toNat : Nat) : Int) = 1 from rfl]
  try refine run ?_
  exact D.fin1 [IBk o v (p + 1), h] _ rfl rfl ⟨rfl, rfl⟩
 | false =>
  rw [show (((if false = true then 1 else 0 : UInt8).toNat : Nat) : Int) = 0 from rfl]
  try refine run ?_
  exact D.fin1 [IBk o v (p + 1), h] _ rfl rfl ⟨rfl, rfl⟩
set_option maxHeartbeats 1000000 in
theorem itxt_ct {B : List UInt8} {v : Value} {h : Hp} (hs : Rs B v h) {s : ByteArray} {most : Nat} (hm : s.data.toList.length ≤ most) (hmost : most ≤ 1000) {p : Nat} {rest : List UInt8} (hd : B.drop p = (encN s.data.toList.length ++ s.data.toList) ++ rest) (hl : B.length ≤ 1099511627776) {o : Nat} :
  Ct prog 194 [.pointer (some ⟨o, 0, none⟩), .int .i64 (most : Int)] [IBk o v p, h] (IPost o v h (p + (encN s.data.toList.length ++ s.data.toList).length) (.string s)) := by
 rw [append_assoc] at hd
 rw [length_append]
 have hd2 : B.drop (p + (encN s.data.toList.length).length) = s.data.toList ++ rest := by
  rw [← drop_drop, hd, drop_left]
 have hle := congrArg List.length hd2
 rw [length_drop, length_append] at hle
 have hle0 := congrArg List.length hd
 rw [length_drop, length_append, length_append] at hle0
 have hpos := encN_pos s.data.toList.length
 obtain ⟨q, c, rfl⟩ := hs.len
 have hcap : B.length ≤ c := by obtain ⟨a, cc, e, le, _⟩ := id hs; cases e; exact le
 generalize hp1 : p + (encN s.data.toList.length).length = p1 at *
 have hrc : Rs s.data.toList (slCut (.slice q B.length c) 1 p1 (p1 + s.data.toList.length) c) h := by
  have := hs.cut (m := 1) (lo := p1) (hi := p1 + s.data.toList.length) (mx := c) rfl (by omega) (by omega) (by omega)
  rw [hd2, show p1 + s.data.toList.length - p1 = s.data.toList.length from by omega, take_left] at this
  exact this
 have hnum := inum_ct (o := o) hs (n := s.data.toList.length) (by omega) hd hl
 rw [hp1] at hnum
 generalize hz : s.data.toList.length = z at *
 refine Ct.mk' func194 rfl rfl rfl (fun g R => ?_)
 try simp only [ca]
 simp only [na]
 try refine run ?_
 refine WX.call rfl hnum rfl ?_
 rintro _ _ ⟨rfl, rfl⟩
 simp only [ca, na]
 try refine run ?_
 refine W.quiet Tryz.mix (by kernel_rfl) ?_
 try refine run ?_
 refine W.quiet Tryz.mix (by kernel_rfl) ?_
 try refine run ?_
 refine WX.as 52 (.int .i64 (p1 : Int)) rfl (by congr 1; omega) ?_
 refine WX.as 56 (.int .i64 ((p1 + z : Nat) : Int)) rfl rfl ?_
 refine WX.cut2 (lo := p1) (hi := p1 + z) rfl rfl rfl (by omega) (by omega) rfl ?_
 refine WX.strOf rfl hrc rfl ?_
 rw [strOf_data]
 try refine run ?_
 refine D.hp (H' := [IBk o (.slice q B.length c) (p1 + z), h, R]) rfl ?_
 exact D.fin1 [IBk o (.slice q B.length c) (p1 + z), h] _ rfl rfl ⟨rfl, by rw [← hp1, Nat.add_assoc]⟩
end Go.Proofs.YtejfahjgfedliaaGreat

namespace Go.Proofs.YtejfahjgfedliaaGreat
open Go Go.Sl Go.Proofs.Tryz
def Rd (B : List UInt8) : Nat → List (It × Value) → Nat → Prop
 | p, [], q => p = q
 | p, x :: l, q => ∃ b rest, encI x.1 x.2 = some b ∧ longI x.1 x.2 = false ∧ B.drop p = b ++ rest ∧ Rd B (p + b.length) l q
theorem Rd.split {B : List UInt8} : ∀ {l m : List (It × Value)} {p q : Nat}, Rd B p (l ++ m) q → ∃ s, Rd B p l s ∧ Rd B s m q
 | [], m, p, q, h => ⟨p, rfl, h⟩
 | x :: l, m, p, q, h => by
  obtain ⟨b, rest, h1, h2, h3, h4⟩ := h
  obtain ⟨s, h5, h6⟩ := Rd.split (l := l) h4
  exact ⟨s, ⟨b, rest, h1, h2, h3, h5⟩, h6⟩
section
variable {B : List UInt8} {v : Value} {h : Hp} {p o : Nat}
theorem inumI_ct (hs : Rs B v h) {n : Int} {b rest : List UInt8} {j : Nat} (he : encI (.num j) (.int .i64 n) = some b) (hd : B.drop p = b ++ rest) (hl : B.length ≤ 1099511627776) :
  Ct prog 149 [.pointer (some ⟨o, 0, none⟩)] [IBk o v p, h] (IPost o v h (p + b.length) (.int .i64 n)) := by
 have hne : ¬ (n < 0 ∨ 4611686018427387904 < n) := fun hc => by rw [encI_num, if_pos hc] at he; cases he
 have he : b = encN n.toNat := by rw [encI_num, if_neg hne] at he; exact (Option.some.inj he).symm
 subst he
 obtain ⟨m, rfl⟩ : ∃ m : Nat, n = (m : Int) := ⟨n.toNat, by omega⟩
 rw [Int.toNat_natCast] at hd ⊢
 exact inum_ct hs (by omega) hd hl
theorem itruI_ct (hs : Rs B v h) {t : Bool} {b rest : List UInt8} {j : Nat} (he : encI (.tru j) (.bool t) = some b) (hd : B.drop p = b ++ rest) (hl : B.length ≤ 1099511627776) :
  Ct prog 195 [.pointer (some ⟨o, 0, none⟩)] [IBk o v p, h] (IPost o v h (p + b.length) (.bool t)) := by
 have he : b = encN (if t = true then 1 else 0) := (Option.some.inj he).symm
 subst he
 exact itru_ct hs hd hl
theorem itxtI_ct (hs : Rs B v h) {s : ByteArray} {b rest : List UInt8} {j most : Nat} (hmost : most ≤ 1000) (he : encI (.txt j most) (.string s) = some b) (hg : longI (.txt j most) (.string s) = false) (hd : B.drop p = b ++ rest) (hl : B.length ≤ 1099511627776) :
  Ct prog 194 [.pointer (some ⟨o, 0, none⟩), .int .i64 (most : Int)] [IBk o v p, h] (IPost o v h (p + b.length) (.string s)) := by
 have he : b = encN s.data.toList.length ++ s.data.toList := (Option.some.inj he).symm
 have hm : ¬ most < s.data.toList.length := of_decide_eq_false hg
 subst he
 exact itxt_ct hs (by omega) hmost hd hl
end
set_option maxHeartbeats 1000000 in
theorem imem_ct {B : List UInt8} {v : Value} {h : Hp} (hs : Rs B v h) {p p' i j : Nat} {x y : Int} (hrd : Rd B p [(.num i, .int .i64 x), (.num j, .int .i64 y)] p') (hl : B.length ≤ 1099511627776) {o : Nat} :
  Ct prog 197 [.pointer (some ⟨o, 0, none⟩)] [IBk o v p, h] (IPost o v h p' (.agg #[.int .i64 x, .int .i64 y])) := by
 obtain ⟨b0, r0, e0, -, d0, b1, r1, e1, -, d1, rfl⟩ := hrd
 refine Ct.mk' func197 rfl rfl rfl (fun g R => ?_)
 try simp only [ca]
 simp only [na]
 repeat' (first | refine run ?_ | refine al (fun _ => ?_) | fail)
 rename_i b2 b3
 refine WX.call rfl (inumI_ct hs e0 d0 hl) rfl ?_
 rintro _ _ ⟨rfl, rfl⟩
 simp only [ca, na]
 try refine run ?_
 refine WX.call rfl (inumI_ct hs e1 d1 hl) rfl ?_
 rintro _ _ ⟨rfl, rfl⟩
 simp only [ca, na]
 try refine run ?_
 exact D.finR1 [IBk o v (p + b0.length + b1.length), h] _ rfl (.cellA rfl rfl .nil) ⟨rfl, rfl⟩
end Go.Proofs.YtejfahjgfedliaaGreat

namespace Go.Proofs.YtejfahjgfedliaaGreat
open Go Go.Sl Go.Proofs.Tryz List
def fillC (xs zs : List Value) (j : Nat) : List Value := xs.take j ++ zs.drop j
theorem fill_one {xs zs : List Value} {j : Nat} {x : Value} (hx : xs[j]? = some x) (hz : zs.length = xs.length) : (fillC xs zs j).set j x = fillC xs zs (j + 1) := by
 obtain ⟨h1, h2⟩ := List.getElem?_eq_some_iff.1 hx
 unfold fillC
 have h3 : (xs.take j).length = j := by rw [length_take]; omega
 rw [set_append_right _ _ (by omega), h3, Nat.sub_self, drop_eq_getElem_cons (by omega : j < zs.length), set_cons_zero, take_succ_eq_append_getElem h1, h2, append_assoc]
 rfl
theorem fill_len {xs zs : List Value} {j : Nat} (hz : zs.length = xs.length) (hj : j ≤ xs.length) : (fillC xs zs j).length = xs.length := by
 unfold fillC; rw [length_append, length_take, length_drop]; omega
def vItems (o : Nat) (d : V9) : List (It × Value) := (itsV o).zip d.enc
theorem vItems_drop {o : Nat} {d : V9} {j : Nat} {x : Int} (h : j < 9) (hx : d.enc[j]? = some (.int .i64 x)) : (vItems o d).drop j = (.num (o + j), .int .i64 x) :: (vItems o d).drop (j + 1) := by
 have hl : (vItems o d).length = 9 := rfl
 rw [drop_eq_getElem_cons (by omega)]
 congr 1
 have h1 : (vItems o d)[j]? = some (It.num (o + j), Value.int .i64 x) := by
  unfold vItems
  rw [List.getElem?_zip_eq_some]
  exact ⟨by unfold itsV; simp [h], hx⟩
 exact (List.getElem?_eq_some_iff.1 h1).2
set_option maxHeartbeats 1000000 in
theorem ivec_ct {B : List UInt8} {v : Value} {h : Hp} (hs : Rs B v h) {p p' k0 : Nat} {d : V9} (hrd : Rd B p (vItems k0 d) p') (hl : B.length ≤ 1099511627776) {o : Nat} :
  Ct prog 196 [.pointer (some ⟨o, 0, none⟩)] [IBk o v p, h] (IPost o v h p' (.agg d.enc.toArray)) := by
 have hzl : V9.z.enc.length = d.enc.length := rfl
 have hdl : d.enc.length = 9 := rfl
 refine Ct.mk' func196 rfl rfl rfl (fun g R => ?_)
 try simp only [ca]
 simp only [na]
 repeat' (first | refine run ?_ | refine al (fun _ => ?_) | fail)
 rename_i b2 b3
 refine W.hp (H' := [[(b3, .cells (fillC d.enc V9.z.enc (0 * 3 + 0)).toArray 37 (0, 0))], [(b2, .cells V9.z.enc.toArray 37 (0, 0))], IBk o v p, h, R]) rfl ?_
 refine W.loop (α := Nat × Nat) (fun x => x.1 ≤ 3 ∧ Rd B x.2 ((vItems k0 d).drop (x.1 * 3 + 0)) p') (fun x => [(0, .pointer (some ⟨o, 0, none⟩)), (2, .pointer (some ⟨b2, 0, none⟩)), (3, .pointer (some ⟨b3, 0, none⟩)), (4, .int .i64 (x.1 : Int))])
  (fun x => [[(b3, .cells (fillC d.enc V9.z.enc (x.1 * 3 + 0)).toArray 37 (0, 0))], [(b2, .cells V9.z.enc.toArray 37 (0, 0))], IBk o v x.2, h, R]) (fun x => 3 - x.1) (0, p) ⟨Nat.zero_le _, hrd⟩ (by repeat (first | exact Fsub.nil | refine Fsub.cons rfl ?_)) (Hsub.of_picks inferInstance) ?_
 rintro ⟨k, q⟩ ⟨hk, hq⟩
 simp only [] at hk hq ⊢
 by_cases hk3 : k < 3
 ·try refine run ?_
  refine W.loop (α := Nat × Nat) (fun x => x.1 ≤ 3 ∧ Rd B x.2 ((vItems k0 d).drop (k * 3 + x.1)) p') (fun x => [(0, .pointer (some ⟨o, 0, none⟩)), (2, .pointer (some ⟨b2, 0, none⟩)), (3, .pointer (some ⟨b3, 0, none⟩)), (4, .int .i64 (k : Int)), (5, .int .i64 (x.1 : Int))])
   (fun x => [[(b3, .cells (fillC d.enc V9.z.enc (k * 3 + x.1)).toArray 37 (0, 0))], [(b2, .cells V9.z.enc.toArray 37 (0, 0))], IBk o v x.2, h, R]) (fun x => 3 - x.1) (0, q) ⟨Nat.zero_le _, hq⟩ (by repeat (first | exact Fsub.nil | refine Fsub.cons rfl ?_)) (Hsub.of_picks inferInstance) ?_
  rintro ⟨r, s⟩ ⟨hr, hsr⟩
  simp only [] at hr hsr ⊢
  by_cases hr3 : r < 3
  ·obtain ⟨x, -, hx⟩ := d.at9 (j := k * 3 + r) (by omega)
   rw [vItems_drop (by omega) hx] at hsr
   obtain ⟨b, rest, e1, -, d1, hsr⟩ := hsr
   have hfl := fill_len (j := k * 3 + r) hzl (by omega)
   have hlt : Nat.blt (k * 3 + r) (fillC d.enc V9.z.enc (k * 3 + r)).length = true := Nat.ble_eq_true_of_le (by rw [hfl, hdl]; omega)
   have hf1 := fill_one hx hzl
   try refine run ?_
   refine W.mix [true, true, true, false, true, true, false] ([] : HH) Tryz.mix (by kernel_rfl) ?_
   try refine run ?_
   refine WX.call rfl (inumI_ct hs e1 d1 hl) rfl ?_
   rintro _ _ ⟨rfl, rfl⟩
   simp only [ca, na]
   try refine run ?_
   refine WX.as 19 (.pointer (some ⟨b3, k * 3 + r, none⟩)) rfl (by rw [Int.toNat_natCast, Int.toNat_natCast, Nat.mul_one, Nat.zero_add]) ?_
   refine I.st ?_
   refine WX.store (v := .int .i64 x) (b := b3) (i := k * 3 + r) (cs := fillC d.enc V9.z.enc (k * 3 + r)) rfl rfl rfl hlt ?_
   rw [hf1]
   try refine run ?_
   exact D.rd (r + 1, s + b.length) ⟨by simp only []; omega, hsr⟩ (by simp only []; omega)
  ·obtain rfl : r = 3 := by omega
   rw [show k * 3 + 3 = (k + 1) * 3 + 0 by omega] at hsr ⊢
   try refine run ?_
   exact D.rd (k + 1, s) ⟨by simp only []; omega, hsr⟩ (by simp only []; omega)
 ·obtain rfl : k = 3 := by omega
  have hq : q = p' := hq
  subst hq
  rw [show fillC d.enc V9.z.enc (3 * 3 + 0) = d.enc from rfl]
  try refine run ?_
  exact D.finR1 [IBk o v q, h] _ rfl (.cellA rfl rfl .nil) ⟨rfl, rfl⟩
def cItems (o : Nat) (c : Cfg) : List (It × Value) := (itsC o).zip c.enc
theorem cItems_mem (o : Nat) (c : Cfg) {i : Nat} (h : i < 4) : ∃ (m : Mem) (j k : Nat), (cItems o c).drop (2 + i * 2) = [(.num j, .int .i64 m.nd), (.num k, .int .i64 m.sn)] ++ (cItems o c).drop (2 + (i + 1) * 2) ∧ setAt (fillC c.enc Cfg.z.enc (2 + i * 2)) (2 + i * 2) [.int .i64 m.nd, .int .i64 m.sn] = fillC c.enc Cfg.z.enc (2 + (i + 1) * 2) := by
 match i, h with
 | 0, _ => exact ⟨c.f0, _, _, rfl, rfl⟩
 | 1, _ => exact ⟨c.f1, _, _, rfl, rfl⟩
 | 2, _ => exact ⟨c.f2, _, _, rfl, rfl⟩
 | 3, _ => exact ⟨c.f3, _, _, rfl, rfl⟩
set_option maxHeartbeats 2000000 in
theorem icfg_ct {B : List UInt8} {v : Value} {h : Hp} (hs : Rs B v h) {p p' k0 : Nat} {c : Cfg} (hrd : Rd B p (cItems k0 c) p') (hl : B.length ≤ 1099511627776) {o : Nat} :
  Ct prog 151 [.pointer (some ⟨o, 0, none⟩)] [IBk o v p, h] (IPost o v h p' (.agg c.enc.toArray)) := by
 have hzl : Cfg.z.enc.length = c.enc.length := rfl
 obtain ⟨b0, r0, e0, -, d0, b1, r1, e1, -, d1, hrd⟩ := hrd
 have hrd : Rd B (p + b0.length + b1.length) ((cItems k0 c).drop (2 + 0 * 2)) p' := hrd
 refine Ct.mk' func151 rfl rfl rfl (fun g R => ?_)
 try simp only [ca]
 simp only [na]
 repeat' (first | refine run ?_ | refine al (fun _ => ?_) | fail)
 rename_i b2 b3
 refine WX.hp (H' := [[(b3, .cells (fillC c.enc Cfg.z.enc 0).toArray 34 (0, 0))], [(b2, .cells Cfg.z.enc.toArray 34 (0, 0))], IBk o v p, h, R]) rfl ?_
 refine WX.call rfl (inumI_ct hs e0 d0 hl) rfl ?_
 rintro _ _ ⟨rfl, rfl⟩
 simp only [ca, na]
 repeat' (first | refine WX.store (v := .int .i64 c.ep) (b := b3) (i := 0) (cs := fillC c.enc Cfg.z.enc 0) rfl rfl rfl rfl ?_ | refine stp ?_ | fail)
 refine WX.hp (H' := [IBk o v (p + b0.length), h, [(b3, .cells (fillC c.enc Cfg.z.enc 1).toArray 34 (0, 0))], [(b2, .cells Cfg.z.enc.toArray 34 (0, 0))], R]) rfl ?_
 refine WX.call rfl (inumI_ct hs e1 d1 hl) rfl ?_
 rintro _ _ ⟨rfl, rfl⟩
 simp only [ca, na]
 repeat' (first | refine WX.store (v := .int .i64 c.n) (b := b3) (i := 1) (cs := fillC c.enc Cfg.z.enc 1) rfl rfl rfl rfl ?_ | refine stp ?_ | fail)
 refine W.hp (H' := [IBk o v (p + b0.length + b1.length), h, [(b3, .cells (fillC c.enc Cfg.z.enc (2 + 0 * 2)).toArray 34 (0, 0))], [(b2, .cells Cfg.z.enc.toArray 34 (0, 0))], R]) rfl ?_
 refine W.loop (α := Nat × Nat) (fun x => x.1 ≤ 4 ∧ Rd B x.2 ((cItems k0 c).drop (2 + x.1 * 2)) p') (fun x => [(0, .pointer (some ⟨o, 0, none⟩)), (2, .pointer (some ⟨b2, 0, none⟩)), (3, .pointer (some ⟨b3, 0, none⟩)), (4, .int .i64 (x.1 : Int))])
  (fun x => [IBk o v x.2, h, [(b3, .cells (fillC c.enc Cfg.z.enc (2 + x.1 * 2)).toArray 34 (0, 0))], [(b2, .cells Cfg.z.enc.toArray 34 (0, 0))], R]) (fun x => 4 - x.1) (0, p + b0.length + b1.length) ⟨Nat.zero_le _, hrd⟩ (by repeat (first | exact Fsub.nil | refine Fsub.cons rfl ?_)) (Hsub.of_picks inferInstance) ?_
 rintro ⟨i, q⟩ ⟨hi, hq⟩
 simp only [] at hi hq ⊢
 by_cases hi4 : i < 4
 ·obtain ⟨m, j, k, e2, e3⟩ := cItems_mem k0 c hi4
  rw [e2] at hq
  obtain ⟨s, hm, hq⟩ := hq.split
  have hfl := fill_len (j := 2 + i * 2) hzl (by rw [Cfg.len13]; omega)
  have hble : Nat.ble (2 + i * 2 + [Value.int .i64 m.nd, .int .i64 m.sn].length) (fillC c.enc Cfg.z.enc (2 + i * 2)).length = true := Nat.ble_eq_true_of_le (by rw [hfl, Cfg.len13]; simp only [length_cons, length_nil]; omega)
  try refine run ?_
  refine WX.call rfl (imem_ct hs hm hl) rfl ?_
  rintro _ _ ⟨rfl, rfl⟩
  simp only [ca, na]
  try refine run ?_
  refine WX.as 19 (.pointer (some ⟨b3, 2 + i * 2, none⟩)) rfl (by rw [Int.toNat_natCast, Nat.zero_add]) ?_
  refine I.st ?_
  refine WX.storeG (vs := [.int .i64 m.nd, .int .i64 m.sn]) (b := b3) (i := 2 + i * 2) (cs := fillC c.enc Cfg.z.enc (2 + i * 2)) rfl rfl rfl rfl rfl hble ?_
  rw [e3]
  try refine run ?_
  exact D.rd (i + 1, s) ⟨by simp only []; omega, hq⟩ (by simp only []; omega)
 ·obtain rfl : i = 4 := by omega
  obtain ⟨b4, r4, e4, -, d4, hq⟩ := hq
  have hq : Rd B (q + b4.length) [(.num (k0 + 11), .int .i64 c.le.nd), (.num (k0 + 12), .int .i64 c.le.sn)] p' := hq
  try refine run ?_
  refine WX.call rfl (itruI_ct hs e4 d4 hl) rfl ?_
  rintro _ _ ⟨rfl, rfl⟩
  simp only [ca, na]
  repeat' (first | refine WX.store (v := .bool c.jo) (b := b3) (i := 10) (cs := fillC c.enc Cfg.z.enc (2 + 4 * 2)) rfl rfl rfl rfl ?_ | refine stp ?_ | fail)
  refine WX.hp (H' := [IBk o v (q + b4.length), h, [(b3, .cells (fillC c.enc Cfg.z.enc 11).toArray 34 (0, 0))], [(b2, .cells Cfg.z.enc.toArray 34 (0, 0))], R]) rfl ?_
  refine WX.call rfl (imem_ct hs hq hl) rfl ?_
  rintro _ _ ⟨rfl, rfl⟩
  simp only [ca, na]
  repeat' (first | (refine I.st ?_; refine WX.storeG (vs := [.int .i64 c.le.nd, .int .i64 c.le.sn]) (b := b3) (i := 11) (cs := fillC c.enc Cfg.z.enc 11) rfl rfl rfl rfl rfl rfl ?_; refine WX.nil ?_) | refine stp ?_ | fail)
  refine D.hp (H' := [IBk o v p', h, [(b3, .cells c.enc.toArray 34 (0, 0))], [(b2, .cells c.enc.toArray 34 (0, 0))], R]) rfl ?_
  exact D.finR1 [IBk o v p', h] _ rfl (.cellA rfl rfl .nil) ⟨rfl, rfl⟩
def eItems (o : Nat) (e : Ent) : List (It × Value) := (itsW o).zip e.enc
set_option maxHeartbeats 4000000 in
theorem ient_ct {B : List UInt8} {v : Value} {h : Hp} (hs : Rs B v h) {p p' k0 : Nat} {e : Ent} (hrd : Rd B p (eItems k0 e) p') (hl : B.length ≤ 1099511627776) {o : Nat} :
  Ct prog 150 [.pointer (some ⟨o, 0, none⟩)] [IBk o v p, h] (IPost o v h p' (.agg e.enc.toArray)) := by
 have hzl : Ent.z.enc.length = e.enc.length := rfl
 obtain ⟨b0, r0, e0, -, d0, b1, r1, e1, -, d1, b2, r2, e2, -, d2, b3, r3, e3, -, d3, b4, r4, e4, -, d4, b5, r5, e5, -, d5, hrd⟩ := hrd
 obtain ⟨b6, r6, e6, g6, d6, b7, r7, e7, g7, d7, b8, r8, e8, -, d8, hrd⟩ := hrd
 generalize hq0 : p + b0.length + b1.length + b2.length + b3.length + b4.length + b5.length + b6.length + b7.length + b8.length = q9 at hrd
 have hrd : Rd B q9 (vItems (k0 + 9) e.dp ++ [(.num (k0 + 18), .int .i64 e.cl), (.num (k0 + 19), .int .i64 e.op)]) p' := hrd
 obtain ⟨q18, hrv, b18, r18, e18, -, d18, b19, r19, e19, -, d19, rfl⟩ := hrd.split
 refine Ct.mk' func150 rfl rfl rfl (fun g R => ?_)
 try simp only [ca]
 simp only [na]
 repeat' (first | refine run ?_ | refine al (fun _ => ?_) | fail)
 rename_i b2 b3
 refine WX.hp (H' := [[(b3, .cells (fillC e.enc Ent.z.enc 0).toArray 43 (0, 0))], [(b2, .cells Ent.z.enc.toArray 43 (0, 0))], IBk o v p, h, R]) rfl ?_
 refine WX.call rfl (inumI_ct hs e0 d0 hl) rfl ?_
 rintro _ _ ⟨rfl, rfl⟩
 simp only [ca, na]
 try refine run ?_
 refine WX.call rfl (inumI_ct hs e1 d1 hl) rfl ?_
 rintro _ _ ⟨rfl, rfl⟩
 simp only [ca, na]
 try refine run ?_
 refine WX.call rfl (inumI_ct hs e2 d2 hl) rfl ?_
 rintro _ _ ⟨rfl, rfl⟩
 simp only [ca, na]
 try refine run ?_
 refine WX.call rfl (inumI_ct hs e3 d3 hl) rfl ?_
 rintro _ _ ⟨rfl, rfl⟩
 simp only [ca, na]
 try refine run ?_
 refine WX.call rfl (inumI_ct hs e4 d4 hl) rfl ?_
 rintro _ _ ⟨rfl, rfl⟩
 simp only [ca, na]
 try refine run ?_
 refine WX.call rfl (inumI_ct hs e5 d5 hl) rfl ?_
 rintro _ _ ⟨rfl, rfl⟩
 simp only [ca, na]
 try refine run ?_
 refine WX.call rfl (itxtI_ct hs (most := 16) (by decide) e6 g6 d6 hl) rfl ?_
 rintro _ _ ⟨rfl, rfl⟩
 simp only [ca, na]
 try refine run ?_
 refine WX.call rfl (itxtI_ct hs (most := 32) (by decide) e7 g7 d7 hl) rfl ?_
 rintro _ _ ⟨rfl, rfl⟩
 simp only [ca, na]
 try refine run ?_
 refine WX.call rfl (itruI_ct hs e8 d8 hl) rfl ?_
 rintro _ _ ⟨rfl, rfl⟩
 simp only [ca, na]
 try refine run ?_
 rw [hq0]
 refine WX.hp (H' := [IBk o v q9, h, [(b3, .cells (fillC e.enc Ent.z.enc 9).toArray 43 (0, 0))], [(b2, .cells Ent.z.enc.toArray 43 (0, 0))], R]) rfl ?_
 refine WX.call rfl (ivec_ct hs hrv hl) rfl ?_
 rintro _ _ ⟨rfl, rfl⟩
 simp only [ca, na]
 repeat' (first | refine WX.storeG (vs := e.dp.enc) (b := b3) (i := 9) (cs := fillC e.enc Ent.z.enc 9) rfl rfl rfl rfl rfl rfl ?_ | refine stp ?_ | fail)
 refine WX.hp (H' := [IBk o v q18, h, [(b3, .cells (fillC e.enc Ent.z.enc 18).toArray 43 (0, 0))], [(b2, .cells Ent.z.enc.toArray 43 (0, 0))], R]) rfl ?_
 refine WX.call rfl (inumI_ct hs e18 d18 hl) rfl ?_
 rintro _ _ ⟨rfl, rfl⟩
 simp only [ca, na]
 try refine run ?_
 refine WX.call rfl (inumI_ct hs e19 d19 hl) rfl ?_
 rintro _ _ ⟨rfl, rfl⟩
 simp only [ca, na]
 try refine run ?_
 refine D.hp (H' := [IBk o v (q18 + b18.length + b19.length), h, [(b3, .cells e.enc.toArray 43 (0, 0))], [(b2, .cells e.enc.toArray 43 (0, 0))], R]) rfl ?_
 exact D.finR1 [IBk o v (q18 + b18.length + b19.length), h] _ rfl (.cellA rfl rfl .nil) ⟨rfl, rfl⟩
theorem frame_n256 {B : List UInt8} (h : B.length < 65536) : (UInt8.ofNat (B.length / 2 ^ 8)).toNat * 256 + (UInt8.ofNat B.length).toNat = B.length := by
 rw [byte_ofNat (by omega), UInt8.toNat_ofNat']
 omega
set_option maxRecDepth 20000 in
set_option maxHeartbeats 1000000 in
theorem obody_short {B xs : List UInt8} (hB : B.length < 65536) {k : Nat} (hk : k < (frame B).length) (hx : xs = (frame B).take k) {v : Value} {h : Hp} (hr : Rs xs v h) :
  Ct prog 148 [v] [h] (fun r H' => r = .tuple #[.slice none 0 0, .int .i64 0, .int .i64 40] ∧ H' = [h]) := by
 have hxl : xs.length = k := by rw [hx, length_take]; omega
 rw [frame_len] at hk
 refine Ct.mk' func148 rfl rfl rfl (fun g R => ?_)
 try simp only [ca]
 simp only [na]
 by_cases h2 : xs.length < 2
 ·try refine run ?_
  exact D.finR [h] _ rfl (.tmp rfl (.tmp rfl (.tmp rfl .nil))) rfl ⟨rfl, rfl⟩
 ·obtain ⟨x0, hx0⟩ : ∃ x, xs[(0 : Int).toNat]? = some x := ⟨_, List.getElem?_eq_getElem (by show 0 < xs.length; omega)⟩
  obtain ⟨x1, hx1⟩ : ∃ x, xs[(1 : Int).toNat]? = some x := ⟨_, List.getElem?_eq_getElem (by show 1 < xs.length; omega)⟩
  have e0 : x0 = UInt8.ofNat (B.length / 2 ^ 8) := by
   have hx0 : xs[0]? = some x0 := hx0
   rw [hx, List.getElem?_take_of_lt (by omega), frame_0] at hx0; exact (Option.some.inj hx0).symm
  have e1 : x1 = UInt8.ofNat B.length := by
   have hx1 : xs[1]? = some x1 := hx1
   rw [hx, List.getElem?_take_of_lt (by omega), frame_1] at hx1; exact (Option.some.inj hx1).symm
  have hn := frame_n256 hB
  rw [← e0, ← e1] at hn
  have hb0 := byte_lt x0
  have hb1 := byte_lt x1
  try refine run ?_
  refine W.quiet Tryz.mix (by kernel_rfl) ?_
  repeat' (first | refine run ?_ | refine WX.conv rfl rfl (IntWalk.i64_in _ (by omega)) ?_ | refine WX.mul rfl rfl rfl (by omega) ?_ | fail)
  exact D.finR [h] _ rfl (.tmp rfl (.tmp rfl (.tmp rfl .nil))) rfl ⟨rfl, rfl⟩
set_option maxRecDepth 20000 in
set_option maxHeartbeats 2000000 in
theorem obody_ok {B rest xs : List UInt8} (hB : B.length < 65536) (hx : xs = frame B ++ rest) {v : Value} {h : Hp} (hr : Rs xs v h) (hl : xs.length ≤ 1099511627776) :
  Ct prog 148 [v] [h] (fun r H' => ∃ u, r = .tuple #[u, .int .i64 ((B.length + 6 : Nat) : Int), .int .i64 0] ∧ H' = [h] ∧ Rs B u h) := by
 have hxl : xs.length = B.length + 6 + rest.length := by rw [hx, length_append, frame_len]
 obtain ⟨p, c, rfl⟩ := hr.len
 have hcap : xs.length ≤ c := by obtain ⟨a, cc, e, le, _⟩ := id hr; cases e; exact le
 have x0h : xs[(0 : Int).toNat]? = some (UInt8.ofNat (B.length / 2 ^ 8)) := by rw [hx]; rfl
 have x1h : xs[(1 : Int).toNat]? = some (UInt8.ofNat B.length) := by rw [hx]; rfl
 have hn := frame_n256 hB
 have hb0 := byte_lt (UInt8.ofNat (B.length / 2 ^ 8))
 have hb1 := byte_lt (UInt8.ofNat B.length)
 have hrB : Rs B (slCut (.slice p xs.length c) 1 2 (B.length + 2) c) h := by
  have := hr.cut (m := 1) (lo := 2) (hi := B.length + 2) (mx := c) rfl (by omega) (by omega) (by omega)
  rw [hx] at this
  rw [frame_B] at this
  rw [← hx] at this
  exact this
 have hrS : Rs (be32 (crcS B)) (slCut (.slice p xs.length c) 1 (B.length + 2) (B.length + 6) c) h := by
  have := hr.cut (m := 1) (lo := B.length + 2) (hi := B.length + 6) (mx := c) rfl (by omega) (by omega) (by omega)
  rw [hx] at this
  rw [frame_S] at this
  rw [← hx] at this
  exact this
 obtain ⟨q1, q2, q3, hq⟩ : ∃ q1 q2 q3, slCut (.slice p xs.length c) 1 2 (B.length + 2) c = .slice q1 q2 q3 := ⟨_, _, _, rfl⟩
 rw [hq] at hrB
 have hcl := crcS_lt B
 have s0 : (be32 (crcS B))[(0 : Int).toNat]? = some (UInt8.ofNat (crcS B / 2 ^ 24)) := rfl
 have s1 : (be32 (crcS B))[(1 : Int).toNat]? = some (UInt8.ofNat (crcS B / 2 ^ 16)) := rfl
 have s2 : (be32 (crcS B))[(2 : Int).toNat]? = some (UInt8.ofNat (crcS B / 2 ^ 8)) := rfl
 have s3 : (be32 (crcS B))[(3 : Int).toNat]? = some (UInt8.ofNat (crcS B)) := rfl
 refine Ct.mk' func148 rfl rfl rfl (fun g R => ?_)
 try simp only [ca]
 simp only [na]
 try refine run ?_
 refine W.quiet Tryz.mix (by kernel_rfl) ?_
 repeat' (first | refine run ?_ | refine WX.conv rfl rfl (IntWalk.i64_in _ (by omega)) ?_ | refine WX.mul rfl rfl rfl (by omega) ?_ | fail)
 refine WX.as 28 (.int .i64 ((B.length + 2 : Nat) : Int)) rfl (by congr 1; omega) ?_
 refine WX.cut2 (lo := 2) (hi := B.length + 2) rfl rfl rfl (by omega) (by omega) rfl ?_
 rw [hq]
 refine WX.callQ rfl (rmore_ct hrB (by omega)) rfl ?_
 try refine run ?_
 refine WX.as 33 (.int .i64 ((B.length + 2 : Nat) : Int)) rfl (by congr 1; omega) ?_
 refine WX.as 35 (.int .i64 ((B.length + 6 : Nat) : Int)) rfl (by congr 1; omega) ?_
 refine WX.cut2 (lo := B.length + 2) (hi := B.length + 6) rfl rfl rfl (by omega) (by omega) rfl ?_
 repeat' (first | refine run ?_ | refine WX.shrN (m := 24) rfl rfl (by decide) rfl ?_ | refine WX.shrN (m := 16) rfl rfl (by decide) rfl ?_ | refine WX.shrN (m := 8) rfl rfl (by decide) rfl ?_ | (refine WX.convW rfl rfl ?_; rw [u8_wrap]) | fail)
 refine WX.as 72 (.int .i64 ((B.length + 2 : Nat) : Int)) rfl (by congr 1; omega) ?_
 refine WX.cut2 (lo := 2) (hi := B.length + 2) rfl rfl rfl (by omega) (by omega) rfl ?_
 rw [hq]
 try refine run ?_
 refine D.as 3 (.int .i64 ((B.length + 6 : Nat) : Int)) rfl (by congr 1; omega) ?_
 exact D.finR [h] _ rfl (.tmp rfl (.tmp rfl (.tmp rfl .nil))) rfl ⟨_, rfl, rfl, hrB⟩
def itv (vs : List Value) (it : It) : It × Value := (it, (vs[it.o]?).getD (.bool false))
theorem rd_of {vs : List Value} {rest : List UInt8} : ∀ {its : List It} {pre B : List UInt8}, (∀ it ∈ its, ∃ u e, vs[it.o]? = some u ∧ encI it u = some e ∧ longI it u = false) → B = pre ++ (encs2 vs its ++ rest) → Rd B pre.length (its.map (itv vs)) (pre.length + (encs2 vs its).length) := by
 intro its
 induction its with
 | nil => intro pre B _ _; rfl
 | cons it t ih =>
  intro pre B h hB
  obtain ⟨u, e, h1, h2, h3⟩ := h it (mem_cons_self ..)
  have he : encs2 vs (it :: t) = e ++ encs2 vs t := by
   unfold encs2
   rw [map_cons, flatten_cons, h1]
   simp [h2]
  rw [he] at hB ⊢
  have hv : itv vs it = (it, u) := by unfold itv; rw [h1]; rfl
  rw [map_cons, hv]
  refine ⟨e, encs2 vs t ++ rest, h2, h3, by rw [hB, drop_left, append_assoc], ?_⟩
  have := ih (pre := pre ++ e) (B := B) (fun x hx => h x (mem_cons_of_mem _ hx)) (by rw [hB]; simp)
  rw [length_append] at this
  rw [length_append, ← Nat.add_assoc]
  exact this
theorem Rec.Good.rd {r : Rec} (gd : r.Good) : Rd r.body 0 ((Rec.its r.k).map (itv r.enc)) r.body.length := by
 have := rd_of (vs := r.enc) (rest := []) (its := Rec.its r.k) (pre := []) (B := r.body) (fun it hit => by
  obtain ⟨u, e, h1, _, h2, h3⟩ := gd.its it hit
  exact ⟨u, e, h1, h2, h3⟩) (by rw [nil_append, append_nil]; rfl)
 simp only [length_nil, Nat.zero_add] at this
 exact this
theorem itv_1 (e : Ent) (c : Cfg) (b : Int) : (Rec.its 1).map (itv (Rec.enc ⟨1, e, c, b⟩)) = (.num 0, .int .i64 1) :: eItems 1 e := by kernel_rfl
theorem itv_2 (e : Ent) (c : Cfg) (b : Int) : (Rec.its 2).map (itv (Rec.enc ⟨2, e, c, b⟩)) = (.num 0, .int .i64 2) :: (cItems 21 c ++ [(.num 34, .int .i64 b)]) := by kernel_rfl
theorem itv_3 (e : Ent) (c : Cfg) (b : Int) : (Rec.its 3).map (itv (Rec.enc ⟨3, e, c, b⟩)) = [(.num 0, .int .i64 3)] := by kernel_rfl
set_option maxHeartbeats 4000000 in
theorem rread_ok {r : Rec} (gd : r.Good) {xs rest : List UInt8} (hx : xs = r.fr ++ rest) {v : Value} {h : Hp} (hr : Rs xs v h) (hl : xs.length ≤ 1099511627776) :
  Ct prog 97 [v] [h] (fun res H' => res = .tuple #[.agg r.enc.toArray, .int .i64 (r.fr.length : Int), .int .i64 0] ∧ H' = [h]) := by
 have hfl := gd.fr_len
 have hle := gd.fr_le
 have hxl : xs.length = r.fr.length + rest.length := by rw [hx, length_append]
 have hB := gd.len
 have hrd := gd.rd
 have hkn := gd.known
 have hbr := gd.bare
 rw [gd.fr] at hx
 have hlB : r.body.length ≤ 1099511627776 := by omega
 generalize r.body = B at *
 generalize r.fr.length = F at *
 obtain ⟨k, e, c, bs⟩ := r
 refine Ct.mk' func97 rfl rfl rfl (fun g R => ?_)
 try simp only [ca]
 simp only [na]
 repeat' (first | refine run ?_ | refine al (fun _ => ?_) | fail)
 refine WX.call rfl (obody_ok (B := B) (by omega) hx hr hl) rfl ?_
 rintro _ _ ⟨u, rfl, rfl, hu⟩
 simp only [ca, na]
 obtain ⟨q1, c1, rfl⟩ := hu.len
 repeat' (first | refine run ?_ | refine bx rfl (fun _ => ?_) | refine al (fun _ => ?_) | fail)
 rename_i b2 i bk
 refine WX.hp (H' := [[(bk, .cells Rec.z.enc.toArray 108 (0, 0))], IBk i (.slice q1 B.length c1) 0, h, [(b2, .cells Rec.z.enc.toArray 108 (0, 0))], R]) rfl ?_
 have hk3 : k = 1 ∨ k = 2 ∨ k = 3 := of_decide_eq_true hkn
 rcases hk3 with rfl | rfl | rfl
 ·rw [itv_1] at hrd
  obtain ⟨b0, r0, e0, -, d0, hrd⟩ := hrd
  have hbr : Rec.mk 1 e Cfg.z 0 = ⟨1, e, c, bs⟩ := hbr
  simp only [Rec.mk.injEq, true_and] at hbr
  obtain ⟨rfl, rfl⟩ := hbr
  refine WX.call rfl (inumI_ct hu e0 d0 hlB) rfl ?_
  rintro _ _ ⟨rfl, rfl⟩
  simp only [ca, na]
  repeat' (first | refine WX.store (v := .int .i64 1) (b := bk) (i := 0) (cs := Rec.z.enc) rfl rfl rfl rfl ?_ | refine stp ?_ | fail)
  refine WX.hp (H' := [IBk i (.slice q1 B.length c1) (0 + b0.length), h, [(bk, .cells (Rec.enc ⟨1, Ent.z, Cfg.z, 0⟩).toArray 108 (0, 0))], [(b2, .cells Rec.z.enc.toArray 108 (0, 0))], R]) rfl ?_
  refine WX.call rfl (ient_ct hu hrd hlB) rfl ?_
  rintro _ _ ⟨rfl, rfl⟩
  simp only [ca, na]
  repeat' (first | refine WX.loadA (b := bk) (i := 0) (cs := Rec.enc ⟨1, e, Cfg.z, 0⟩) (vs := Rec.enc ⟨1, e, Cfg.z, 0⟩) rfl rfl rfl rfl ?_ | (refine I.st ?_; refine WX.storeG (vs := e.enc) (b := bk) (i := 1) (cs := Rec.enc ⟨1, Ent.z, Cfg.z, 0⟩) rfl rfl rfl (Ent.len20 _) (Ent.one _) rfl ?_; rw [Rec.put_e]) | refine stp ?_ | fail)
  exact D.finR [h] _ rfl (.cellA rfl rfl (.tmp rfl (.tmp rfl .nil))) rfl ⟨by rw [hfl], rfl⟩
 ·rw [itv_2] at hrd
  obtain ⟨b0, r0, e0, -, d0, hrd⟩ := hrd
  obtain ⟨q, hrc, b3, r3, e3, -, d3, hq⟩ := hrd.split
  have hbr : Rec.mk 2 Ent.z c bs = ⟨2, e, c, bs⟩ := hbr
  simp only [Rec.mk.injEq, true_and, and_true] at hbr
  obtain rfl := hbr
  refine WX.call rfl (inumI_ct hu e0 d0 hlB) rfl ?_
  rintro _ _ ⟨rfl, rfl⟩
  simp only [ca, na]
  repeat' (first | refine WX.store (v := .int .i64 2) (b := bk) (i := 0) (cs := Rec.z.enc) rfl rfl rfl rfl ?_ | refine stp ?_ | fail)
  refine WX.hp (H' := [IBk i (.slice q1 B.length c1) (0 + b0.length), h, [(bk, .cells (Rec.enc ⟨2, Ent.z, Cfg.z, 0⟩).toArray 108 (0, 0))], [(b2, .cells Rec.z.enc.toArray 108 (0, 0))], R]) rfl ?_
  refine WX.call rfl (icfg_ct hu hrc hlB) rfl ?_
  rintro _ _ ⟨rfl, rfl⟩
  simp only [ca, na]
  repeat' (first | (refine I.st ?_; refine WX.storeG (vs := c.enc) (b := bk) (i := 21) (cs := Rec.enc ⟨2, Ent.z, Cfg.z, 0⟩) rfl rfl rfl (Cfg.len13 _) (Cfg.one _) rfl ?_; rw [Rec.put_c]) | refine stp ?_ | fail)
  refine WX.call rfl (inumI_ct hu e3 d3 hlB) rfl ?_
  rintro _ _ ⟨rfl, rfl⟩
  have hq : q + b3.length = B.length := hq
  rw [hq]
  simp only [ca, na]
  repeat' (first | refine WX.loadA (b := bk) (i := 0) (cs := Rec.enc ⟨2, Ent.z, c, bs⟩) (vs := Rec.enc ⟨2, Ent.z, c, bs⟩) rfl rfl rfl rfl ?_ | (refine I.st ?_; refine WX.store (v := .int .i64 bs) (b := bk) (i := 34) (cs := Rec.enc ⟨2, Ent.z, c, 0⟩) rfl rfl rfl rfl ?_; rw [Rec.put_b]) | refine stp ?_ | fail)
  exact D.finR [h] _ rfl (.cellA rfl rfl (.tmp rfl (.tmp rfl .nil))) rfl ⟨by rw [hfl], rfl⟩
 ·rw [itv_3] at hrd
  obtain ⟨b0, r0, e0, -, d0, hq⟩ := hrd
  have hq : 0 + b0.length = B.length := hq
  have hbr : Rec.mk 3 Ent.z Cfg.z 0 = ⟨3, e, c, bs⟩ := hbr
  simp only [Rec.mk.injEq, true_and] at hbr
  obtain ⟨rfl, rfl, rfl⟩ := hbr
  refine WX.call rfl (inumI_ct hu e0 d0 hlB) rfl ?_
  rintro _ _ ⟨rfl, rfl⟩
  rw [hq]
  simp only [ca, na]
  repeat' (first | refine WX.loadA (b := bk) (i := 0) (cs := Rec.enc ⟨3, Ent.z, Cfg.z, 0⟩) (vs := Rec.enc ⟨3, Ent.z, Cfg.z, 0⟩) rfl rfl rfl rfl ?_ | (refine I.st ?_; refine WX.store (v := .int .i64 3) (b := bk) (i := 0) (cs := Rec.z.enc) rfl rfl rfl rfl ?_; refine WX.hp (H' := [IBk i (.slice q1 B.length c1) B.length, h, [(bk, .cells (Rec.enc ⟨3, Ent.z, Cfg.z, 0⟩).toArray 108 (0, 0))], [(b2, .cells Rec.z.enc.toArray 108 (0, 0))], R]) rfl ?_) | refine stp ?_ | fail)
  exact D.finR [h] _ rfl (.cellA rfl rfl (.tmp rfl (.tmp rfl .nil))) rfl ⟨by rw [hfl], rfl⟩
theorem rread_short {r : Rec} (gd : r.Good) {xs : List UInt8} {k : Nat} (hk : k < r.fr.length) (h0 : 0 < k) (hx : xs = r.fr.take k) {v : Value} {h : Hp} (hr : Rs xs v h) :
  Ct prog 97 [v] [h] (fun res H' => res = .tuple #[.agg Rec.z.enc.toArray, .int .i64 0, .int .i64 40] ∧ H' = [h]) := by
 have hB := gd.len
 have hxl : xs.length = k := by rw [hx, length_take]; omega
 rw [gd.fr] at hx hk
 refine Ct.mk' func97 rfl rfl rfl (fun g R => ?_)
 try simp only [ca]
 simp only [na]
 repeat' (first | refine run ?_ | refine al (fun _ => ?_) | fail)
 refine WX.call rfl (obody_short (B := r.body) (by omega) hk hx hr) rfl ?_
 rintro _ _ ⟨rfl, rfl⟩
 simp only [ca, na]
 try refine run ?_
 exact D.finR [h] _ rfl (.cellA rfl rfl (.tmp rfl (.tmp rfl .nil))) rfl ⟨rfl, rfl⟩
structure RfP where
 n : Int
 b : List UInt8
 cm : List Int
structure Gf where
 n : Int
 b : List UInt8
 cm : List Int
 blk : Nat
 pb : Option Addr
 lb : Nat
 cb : Nat
 hb : Hp
 pc : Option Addr
 lc : Nat
 cc : Nat
 hc : Hp
structure Gp where
 b : Nat
instance : Enc Gp := ⟨1, fun s => [.pointer (some ⟨s.b, 0, none⟩)], fun _ => rfl, fun _ => rfl, by decide⟩
def Gf.pl (g : Gf) : RfP := ⟨g.n, g.b, g.cm⟩
def Gf.gp (g : Gf) : Gp := ⟨g.blk⟩
structure Gf.Ok (g : Gf) : Prop where
 b : IsSl 5 g.b (.slice g.pb g.lb g.cb) g.hb
 c : IsSl 3 g.cm (.slice g.pc g.lc g.cc) g.hc
 e : g.cm.length = g.b.length
abbrev GBk (blk : Nat) (n : Int) (v w : Value) : Hp := [(blk, .cells (List.toArray [.int .i64 n, v, w]) 188 (0, 0))]
abbrev Gf.bk (g : Gf) : Hp := GBk g.blk g.n (.slice g.pb g.lb g.cb) (.slice g.pc g.lc g.cc)
def Gf.hp (g : Gf) : Hp := g.bk ++ (g.hb ++ g.hc)
def ghp (gs : List Gf) : Hp := (gs.map Gf.hp).flatten
abbrev RBk (d : Nat) (lv : Value) (t : Int) : Hp := [(d, .cells (List.toArray [lv, .int .i64 t]) 146 (0, 0))]
structure Rk3 (fs : List RfP) (lv : Value) (gs : List Gf) (lh : Hp) : Prop where
 ok : ∀ g ∈ gs, g.Ok
 fs : gs.map Gf.pl = fs
 sl : IsSl 189 (gs.map Gf.gp) lv lh
def IsRk (fs : List RfP) (t : Int) (d : Nat) (h : Hp) : Prop := ∃ lv gs lh, Rk3 fs lv gs lh ∧ h = RBk d lv t ++ (lh ++ ghp gs)
theorem ghp_split {pre post : List Gf} {g : Gf} : ghp (pre ++ g :: post) = ghp pre ++ (g.bk ++ (g.hb ++ (g.hc ++ ghp post))) := by simp [ghp, Gf.hp]
theorem map_app_inv {α β : Type} {f : α → β} {l : List α} {xs ys : List β} {x : β} (h : l.map f = xs ++ x :: ys) : ∃ a g b, l = a ++ g :: b ∧ a.map f = xs ∧ f g = x ∧ b.map f = ys := by
 obtain ⟨a, r, rfl, h1, h2⟩ := map_eq_append_iff.1 h
 obtain ⟨g, b, rfl, h3, h4⟩ := map_eq_cons_iff.1 h2
 exact ⟨a, g, b, rfl, h1, h3, h4⟩
theorem Rk3.at {fs xs ys : List RfP} {x : RfP} {lv : Value} {gs : List Gf} {lh : Hp} (h : Rk3 fs lv gs lh) (e : fs = xs ++ x :: ys) : ∃ a g b, gs = a ++ g :: b ∧ a.map Gf.pl = xs ∧ g.pl = x ∧ b.map Gf.pl = ys ∧ g.Ok ∧ a.length = xs.length ∧ (gs.map Gf.gp)[xs.length]? = some ⟨g.blk⟩ ∧ (gs.map Gf.gp).length = fs.length := by
 obtain ⟨a, g, b, e1, e2, e3, e4⟩ := map_app_inv (h.fs.trans e)
 have hl : a.length = xs.length := by rw [← e2, length_map]
 refine ⟨a, g, b, e1, e2, e3, e4, h.ok g (by rw [e1]; simp), hl, ?_, by rw [← h.fs, length_map, length_map]⟩
 rw [e1, map_append, ← hl]
 rw [List.getElem?_append_right (by rw [length_map]; exact Nat.le_refl _), length_map, Nat.sub_self]
 rfl
theorem Rk3.len {fs : List RfP} {lv : Value} {gs : List Gf} {lh : Hp} (h : Rk3 fs lv gs lh) : (gs.map Gf.gp).length = fs.length := by rw [← h.fs, length_map, length_map]
theorem split_at {α : Type} {l : List α} {k : Nat} {x : α} (h : l[k]? = some x) : l = l.take k ++ x :: l.drop (k + 1) ∧ (l.take k).length = k := by
 obtain ⟨h1, h2⟩ := List.getElem?_eq_some_iff.1 h
 refine ⟨?_, by rw [length_take]; omega⟩
 conv => lhs; rw [← take_append_drop k l, drop_eq_getElem_cons h1, h2]
theorem Rk3.nth {fs : List RfP} {x : RfP} {lv : Value} {gs : List Gf} {lh : Hp} (h : Rk3 fs lv gs lh) {k : Nat} (hx : fs[k]? = some x) : ∃ a g b, gs = a ++ g :: b ∧ g.pl = x ∧ g.Ok ∧ (gs.map Gf.gp)[k]? = some ⟨g.blk⟩ := by
 obtain ⟨e, hl⟩ := split_at hx
 obtain ⟨a, g, b, e1, -, e3, -, hok, -, hat, -⟩ := h.at e
 rw [hl] at hat
 exact ⟨a, g, b, e1, e3, hok, hat⟩
theorem rnew_ct : Ct prog 48 [] [] (fun r H' => ∃ d h', r = .pointer (some ⟨d, 0, none⟩) ∧ H' = [h'] ∧ IsRk [] 0 d h') := by
 refine Ct.pack (pre := []) (post := fun r H' => ∃ d, r = .pointer (some ⟨d, 0, none⟩) ∧ H' = [RBk d (.slice none 0 0) 0]) ?_ rfl (fun r H' ⟨d, e, f⟩ => ⟨[RBk d (.slice none 0 0) 0 ++ ([] ++ ghp [])], by rw [f]; simp [ghp], d, _, e, rfl, _, [], [], ⟨by simp, rfl, IsSl.nil _⟩, rfl⟩)
 refine Ct.mk' func48 rfl rfl rfl (fun g R => ?_)
 try simp only [ca]
 simp only [na]
 repeat' (first | refine run ?_ | refine bx rfl (fun _ => ?_) | fail)
 rename_i d
 exact D.fin1 [RBk d (.slice none 0 0) 0] _ rfl rfl ⟨d, rfl, rfl⟩
def rfPost (d : Nat) (lv : Value) (t : Int) (lh : Hp) (gs : List Gf) (k : Nat) (b : Bool) : Value → HH → Prop := fun r H' => r = .tuple #[.int .i64 (k : Int), .bool b] ∧ H' = [RBk d lv t, lh, ghp gs]
set_option maxHeartbeats 1000000 in
theorem rfind_at {fs xs ys : List RfP} {x : RfP} {lv : Value} {gs : List Gf} {lh : Hp} (hd : Rk3 fs lv gs lh) (e : fs = xs ++ x :: ys) (hlt : ∀ y ∈ xs, y.n < x.n) (hl : fs.length ≤ 1099511627776) {d : Nat} {t : Int} :
  Ct prog 147 [.pointer (some ⟨d, 0, none⟩), .int .i64 x.n] [RBk d lv t, lh, ghp gs] (rfPost d lv t lh gs xs.length true) := by
 obtain ⟨a, y0, b, e1, e2, e3, e4, hok, hal, hat, hlen⟩ := hd.at e
 have hr := hd.sl.rs
 have hgl := hd.len
 have hfl : fs.length = xs.length + (ys.length + 1) := by rw [e]; simp
 obtain ⟨lp, lc, rfl⟩ := hr.len
 refine Ct.mk' func147 rfl rfl rfl (fun g R => ?_)
 try simp only [ca]
 simp only [na]
 try refine run ?_
 refine W.loop (α := Nat) (fun k => k ≤ xs.length) (fun k => [(0, .pointer (some ⟨d, 0, none⟩)), (1, .int .i64 x.n), (6, .int .i64 (k : Int))]) (fun _ => [RBk d (.slice lp (gs.map Gf.gp).length lc) t, lh, ghp gs, R]) (fun k => xs.length + 1 - k) 0 (Nat.zero_le _) (by repeat (first | exact Fsub.nil | refine Fsub.cons rfl ?_)) (Hsub.of_picks inferInstance) ?_
 intro k hk
 by_cases hkl : k < xs.length
 ·obtain ⟨y, hy⟩ : ∃ y, xs[k]? = some y := ⟨_, List.getElem?_eq_getElem hkl⟩
  have hyn := hlt y (mem_of_getElem? hy)
  obtain ⟨a', g', b', e1', e3', hok', hat'⟩ := hd.nth (k := k) (x := y) (by rw [e, List.getElem?_append_left hkl]; exact hy)
  have hn' : g'.n = y.n := by rw [← e3']; rfl
  refine W.flat (H' := [RBk d (.slice lp (gs.map Gf.gp).length lc) t, lh, ghp a', g'.bk, g'.hb, g'.hc, ghp b', R]) (by rw [e1', ghp_split]; simp) ?_
  try refine run ?_
  refine D.flat (H' := [RBk d (.slice lp (gs.map Gf.gp).length lc) t, lh, ghp gs, R]) (by rw [e1', ghp_split]; simp) ?_
  exact D.rd (k + 1) (by omega) (by omega)
 ·obtain rfl : k = xs.length := by omega
  have hn' : y0.n = x.n := by rw [← e3]; rfl
  refine W.flat (H' := [RBk d (.slice lp (gs.map Gf.gp).length lc) t, lh, ghp a, y0.bk, y0.hb, y0.hc, ghp b, R]) (by rw [e1, ghp_split]; simp) ?_
  try refine run ?_
  refine W.quiet Tryz.mix (by kernel_rfl) ?_
  try refine run ?_
  refine D.flat (H' := [RBk d (.slice lp (gs.map Gf.gp).length lc) t, lh, ghp gs, R]) (by rw [e1, ghp_split]; simp) ?_
  exact D.finR [RBk d (.slice lp (gs.map Gf.gp).length lc) t, lh, ghp gs] _ rfl (.tmp rfl (.tmp rfl .nil)) rfl ⟨by rw [hn']; simp, rfl⟩
theorem rfind_end {fs : List RfP} {lv : Value} {gs : List Gf} {lh : Hp} (hd : Rk3 fs lv gs lh) {n : Int} (hlt : ∀ y ∈ fs, y.n < n) (hl : fs.length ≤ 1099511627776) {d : Nat} {t : Int} :
  Ct prog 147 [.pointer (some ⟨d, 0, none⟩), .int .i64 n] [RBk d lv t, lh, ghp gs] (rfPost d lv t lh gs fs.length false) := by
 have hr := hd.sl.rs
 have hgl := hd.len
 obtain ⟨lp, lc, rfl⟩ := hr.len
 refine Ct.mk' func147 rfl rfl rfl (fun g R => ?_)
 try simp only [ca]
 simp only [na]
 try refine run ?_
 refine W.loop (α := Nat) (fun k => k ≤ fs.length) (fun k => [(0, .pointer (some ⟨d, 0, none⟩)), (1, .int .i64 n), (6, .int .i64 (k : Int))]) (fun _ => [RBk d (.slice lp (gs.map Gf.gp).length lc) t, lh, ghp gs, R]) (fun k => fs.length + 1 - k) 0 (Nat.zero_le _) (by repeat (first | exact Fsub.nil | refine Fsub.cons rfl ?_)) (Hsub.of_picks inferInstance) ?_
 intro k hk
 by_cases hkl : k < fs.length
 ·obtain ⟨y, hy⟩ : ∃ y, fs[k]? = some y := ⟨_, List.getElem?_eq_getElem hkl⟩
  have hyn := hlt y (mem_of_getElem? hy)
  obtain ⟨a', g', b', e1', e3', hok', hat'⟩ := hd.nth hy
  have hn' : g'.n = y.n := by rw [← e3']; rfl
  refine W.flat (H' := [RBk d (.slice lp (gs.map Gf.gp).length lc) t, lh, ghp a', g'.bk, g'.hb, g'.hc, ghp b', R]) (by rw [e1', ghp_split]; simp) ?_
  try refine run ?_
  refine D.flat (H' := [RBk d (.slice lp (gs.map Gf.gp).length lc) t, lh, ghp gs, R]) (by rw [e1', ghp_split]; simp) ?_
  exact D.rd (k + 1) (by omega) (by omega)
 ·obtain rfl : k = fs.length := by omega
  try refine run ?_
  refine W.quiet Tryz.mix (by kernel_rfl) ?_
  try refine run ?_
  exact D.finR [RBk d (.slice lp (gs.map Gf.gp).length lc) t, lh, ghp gs] _ rfl (.tmp rfl (.tmp rfl .nil)) rfl ⟨rfl, rfl⟩
set_option maxHeartbeats 1000000 in
theorem rused_ct {fs : List RfP} {lv : Value} {gs : List Gf} {lh : Hp} (hd : Rk3 fs lv gs lh) (hl : fs.length ≤ 1099511627776) (hu : (fs.map fun f => f.b.length).sum ≤ 1099511627776) {d : Nat} {t : Int} :
  Ct prog 152 [.pointer (some ⟨d, 0, none⟩)] [RBk d lv t, lh, ghp gs] (fun r H' => r = .int .i64 (((fs.map fun f => f.b.length).sum : Nat) : Int) ∧ H' = [RBk d lv t, lh, ghp gs]) := by
 have hr := hd.sl.rs
 have hgl := hd.len
 obtain ⟨lp, lc, rfl⟩ := hr.len
 refine Ct.mk' func152 rfl rfl rfl (fun g R => ?_)
 try simp only [ca]
 simp only [na]
 try refine run ?_
 refine W.loop (α := Nat) (fun k => k ≤ fs.length) (fun k => [(0, .pointer (some ⟨d, 0, none⟩)), (3, .int .i64 ((((fs.take k).map fun f => f.b.length).sum : Nat) : Int)), (4, .int .i64 (k : Int))]) (fun _ => [RBk d (.slice lp (gs.map Gf.gp).length lc) t, lh, ghp gs, R]) (fun k => fs.length - k) 0 (Nat.zero_le _) (by repeat (first | exact Fsub.nil | refine Fsub.cons rfl ?_)) (Hsub.of_picks inferInstance) ?_
 intro k hk
 by_cases hkl : k < fs.length
 ·obtain ⟨y, hy⟩ : ∃ y, fs[k]? = some y := ⟨_, List.getElem?_eq_getElem hkl⟩
  obtain ⟨a', g', b', e1', e3', hok', hat'⟩ := hd.nth hy
  have hrb := hok'.b.rs
  have hbn : g'.b.length = y.b.length := by rw [← e3']; rfl
  have hsn : ((fs.take (k + 1)).map fun f => f.b.length).sum = ((fs.take k).map fun f => f.b.length).sum + y.b.length := by
   rw [take_succ_eq_append_getElem hkl, (List.getElem?_eq_some_iff.1 hy).2]; simp
  have hle : ((fs.take (k + 1)).map fun f => f.b.length).sum ≤ (fs.map fun f => f.b.length).sum := by
   conv => rhs; rw [← take_append_drop (k + 1) fs]
   rw [map_append, sum_append]; omega
  refine W.flat (H' := [RBk d (.slice lp (gs.map Gf.gp).length lc) t, lh, ghp a', g'.bk, g'.hb, g'.hc, ghp b', R]) (by rw [e1', ghp_split]; simp) ?_
  try refine run ?_
  refine D.as 3 (.int .i64 ((((fs.take (k + 1)).map fun f => f.b.length).sum : Nat) : Int)) rfl (by rw [hsn, hbn]; congr 1) ?_
  refine D.flat (H' := [RBk d (.slice lp (gs.map Gf.gp).length lc) t, lh, ghp gs, R]) (by rw [e1', ghp_split]; simp) ?_
  exact D.rd (k + 1) (by omega) (by omega)
 ·obtain rfl : k = fs.length := by omega
  rw [take_length]
  try refine run ?_
  exact D.fin1 [RBk d (.slice lp (gs.map Gf.gp).length lc) t, lh, ghp gs] _ rfl rfl ⟨rfl, rfl⟩
def Srt (fs : List RfP) : Prop := (fs.map (·.n)).Pairwise (· < ·)
section
variable {fs : List RfP} {lv : Value} {lh : Hp} {a b : List Gf} {y0 : Gf} {d : Nat} {t : Int}
theorem Rk3.split (h : Rk3 fs lv (a ++ y0 :: b) lh) : fs = a.map Gf.pl ++ y0.pl :: b.map Gf.pl := by rw [← h.fs]; simp
theorem Rk3.lt (h : Rk3 fs lv (a ++ y0 :: b) lh) (srt : Srt fs) : ∀ y ∈ a.map Gf.pl, y.n < y0.pl.n := by
 rw [h.split] at srt
 unfold Srt at srt
 rw [map_append, map_cons, pairwise_append] at srt
 exact fun y hy => srt.2.2 _ (mem_map.2 ⟨y, hy, rfl⟩) _ (mem_cons_self ..)
theorem Rk3.me (h : Rk3 fs lv (a ++ y0 :: b) lh) : y0.Ok ∧ ((a ++ y0 :: b).map Gf.gp)[a.length]? = some ⟨y0.blk⟩ := by
 refine ⟨h.ok y0 (by simp), ?_⟩
 rw [map_append, List.getElem?_append_right (by rw [length_map]; exact Nat.le_refl _), length_map, Nat.sub_self]
 rfl
theorem rfind_s (h : Rk3 fs lv (a ++ y0 :: b) lh) (srt : Srt fs) (hl : fs.length ≤ 1099511627776) :
  Ct prog 147 [.pointer (some ⟨d, 0, none⟩), .int .i64 y0.n] [RBk d lv t, lh, ghp a, y0.bk, y0.hb, y0.hc, ghp b] (fun r H' => r = .tuple #[.int .i64 (a.length : Int), .bool true] ∧ H' = [RBk d lv t, lh, ghp a, y0.bk, y0.hb, y0.hc, ghp b]) := by
 have := rfind_at h h.split (h.lt srt) hl (d := d) (t := t)
 rw [length_map] at this
 exact this.pack (by rw [ghp_split]; simp) (fun r H' p => ⟨_, by rw [p.2, ghp_split]; simp, p.1, rfl⟩)
set_option maxHeartbeats 1000000 in
theorem rsynced_s (h : Rk3 fs lv (a ++ y0 :: b) lh) (srt : Srt fs) (hl : fs.length ≤ 1099511627776) {s : Nat} {ts : List Int} (hc : y0.cm = List.replicate s 0 ++ ts) (hp : ∀ x ∈ ts, 0 < x) (hcl : y0.cm.length ≤ 1099511627776) :
  Ct prog 171 [.pointer (some ⟨d, 0, none⟩), .int .i64 y0.n] [RBk d lv t, lh, ghp a, y0.bk, y0.hb, y0.hc, ghp b] (fun r H' => r = .int .i64 (s : Int) ∧ H' = [RBk d lv t, lh, ghp a, y0.bk, y0.hb, y0.hc, ghp b]) := by
 obtain ⟨hok, hat⟩ := h.me
 have hr := h.sl.rs
 have hrc := hok.c.rs
 have hgl := h.len
 have hcl2 : y0.cm.length = s + ts.length := by rw [hc]; simp
 obtain ⟨lp, lc, rfl⟩ := hr.len
 refine Ct.mk' func171 rfl rfl rfl (fun g R => ?_)
 try simp only [ca]
 simp only [na]
 try refine run ?_
 refine WX.callQ rfl (rfind_s (t := t) h srt hl) rfl ?_
 try refine run ?_
 refine W.loop (α := Nat) (fun k => k ≤ s) (fun k => [(0, .pointer (some ⟨d, 0, none⟩)), (5, .int .i64 (a.length : Int)), (6, .bool true), (7, .int .i64 (k : Int))]) (fun _ => [RBk d (.slice lp ((a ++ y0 :: b).map Gf.gp).length lc) t, lh, ghp a, y0.bk, y0.hb, y0.hc, ghp b, R]) (fun k => s + 1 - k) 0 (Nat.zero_le _) (by repeat (first | exact Fsub.nil | refine Fsub.cons rfl ?_)) (Hsub.of_picks inferInstance) ?_
 intro k hk
 by_cases hks : k < s
 ·have hx : y0.cm[k]? = some 0 := by rw [hc, List.getElem?_append_left (by simpa using hks)]; simp [hks]
  try refine run ?_
  exact D.rd (k + 1) (by omega) (by omega)
 ·obtain rfl : k = s := by omega
  cases ts with
  | nil =>
   have hcn : y0.cm.length = k := by rw [hcl2]; rfl
   try refine run ?_
   exact D.fin1 [RBk d (.slice lp ((a ++ y0 :: b).map Gf.gp).length lc) t, lh, ghp a, y0.bk, y0.hb, y0.hc, ghp b] _ rfl rfl ⟨rfl, rfl⟩
  | cons x r =>
   have hx : y0.cm[k]? = some x := by rw [hc, List.getElem?_append_right (by simp)]; simp
   have hx0 := hp x (mem_cons_self ..)
   have hcn : k < y0.cm.length := (List.getElem?_eq_some_iff.1 hx).1
   try refine run ?_
   exact D.fin1 [RBk d (.slice lp ((a ++ y0 :: b).map Gf.gp).length lc) t, lh, ghp a, y0.bk, y0.hb, y0.hc, ghp b] _ rfl rfl ⟨rfl, rfl⟩
theorem rsize_s (h : Rk3 fs lv (a ++ y0 :: b) lh) (srt : Srt fs) (hl : fs.length ≤ 1099511627776) :
  Ct prog 203 [.pointer (some ⟨d, 0, none⟩), .int .i64 y0.n] [RBk d lv t, lh, ghp a, y0.bk, y0.hb, y0.hc, ghp b] (fun r H' => r = .int .i64 (y0.b.length : Int) ∧ H' = [RBk d lv t, lh, ghp a, y0.bk, y0.hb, y0.hc, ghp b]) := by
 obtain ⟨hok, hat⟩ := h.me
 have hr := h.sl.rs
 have hrb := hok.b.rs
 refine Ct.mk' func203 rfl rfl rfl (fun g R => ?_)
 try simp only [ca]
 simp only [na]
 try refine run ?_
 refine WX.callQ rfl (rfind_s (t := t) h srt hl) rfl ?_
 try refine run ?_
 exact D.fin1 [RBk d lv t, lh, ghp a, y0.bk, y0.hb, y0.hc, ghp b] _ rfl rfl ⟨rfl, rfl⟩
theorem rread_s (h : Rk3 fs lv (a ++ y0 :: b) lh) (srt : Srt fs) (hl : fs.length ≤ 1099511627776) :
  Ct prog 95 [.pointer (some ⟨d, 0, none⟩), .int .i64 y0.n] [RBk d lv t, lh, ghp a, y0.bk, y0.hb, y0.hc, ghp b] (fun r H' => r = .tuple #[.slice y0.pb y0.lb y0.cb, .int .i64 0] ∧ H' = [RBk d lv t, lh, ghp a, y0.bk, y0.hb, y0.hc, ghp b]) := by
 obtain ⟨hok, hat⟩ := h.me
 have hr := h.sl.rs
 have hrb := hok.b.rs
 refine Ct.mk' func95 rfl rfl rfl (fun g R => ?_)
 try simp only [ca]
 simp only [na]
 try refine run ?_
 refine WX.callQ rfl (rfind_s (t := t) h srt hl) rfl ?_
 try refine run ?_
 exact D.fin2 [RBk d lv t, lh, ghp a, y0.bk, y0.hb, y0.hc, ghp b] _ rfl rfl rfl ⟨rfl, rfl⟩
end
section
variable {fs : List RfP} {t : Int} {d : Nat} {h : Hp}
theorem IsRk.at {x : RfP} {k : Nat} (hd : IsRk fs t d h) (hx : fs[k]? = some x) : ∃ lv a y0 b lh, Rk3 fs lv (a ++ y0 :: b) lh ∧ y0.pl = x ∧ h.Perm h ∧ h = [RBk d lv t, lh, ghp a, y0.bk, y0.hb, y0.hc, ghp b].flatten := by
 obtain ⟨lv, gs, lh, h3, rfl⟩ := hd
 obtain ⟨a, y0, b, rfl, e, -, -⟩ := h3.nth hx
 exact ⟨lv, a, y0, b, lh, h3, e, .refl _, by rw [ghp_split]; simp⟩
theorem rsize_ct (hd : IsRk fs t d h) (srt : Srt fs) (hl : fs.length ≤ 1099511627776) {x : RfP} {k : Nat} (hx : fs[k]? = some x) :
  Ct prog 203 [.pointer (some ⟨d, 0, none⟩), .int .i64 x.n] [h] (fun r H' => r = .int .i64 (x.b.length : Int) ∧ H' = [h]) := by
 obtain ⟨lv, a, y0, b, lh, h3, rfl, -, rfl⟩ := hd.at hx
 exact (rsize_s (t := t) h3 srt hl).pack (by simp) (fun r H' p => ⟨_, by rw [p.2]; simp, p.1, rfl⟩)
theorem rread_ct (hd : IsRk fs t d h) (srt : Srt fs) (hl : fs.length ≤ 1099511627776) {x : RfP} {k : Nat} (hx : fs[k]? = some x) :
  Ct prog 95 [.pointer (some ⟨d, 0, none⟩), .int .i64 x.n] [h] (fun r H' => ∃ u, r = .tuple #[u, .int .i64 0] ∧ H' = [h] ∧ Rs x.b u h) := by
 obtain ⟨lv, a, y0, b, lh, h3, rfl, -, rfl⟩ := hd.at hx
 refine (rread_s (t := t) h3 srt hl).pack (by simp) (fun r H' p => ⟨_, by rw [p.2]; simp, _, p.1, rfl, ?_⟩)
 have := h3.me.1.b.rs
 refine this.mono fun _ w ho => ?_
 simp only [flatten_cons, flatten_nil] at ho
 exact ho.right.right.right.right.left
end
structure RfQ where
 n : Int
 b : List UInt8
 s : Nat
 ts : List Int
def RfQ.pl (q : RfQ) : RfP := ⟨q.n, q.b, List.replicate q.s 0 ++ q.ts⟩
structure RfQ.Ok (q : RfQ) : Prop where
 e : q.s + q.ts.length = q.b.length
 p : ∀ x ∈ q.ts, 0 < x
structure QOk (qs : List RfQ) : Prop where
 up : (qs.map (·.n)).Pairwise (· < ·)
 ok : ∀ q ∈ qs, q.Ok
 used : (qs.map fun q => q.b.length).sum ≤ 1048576
 len : qs.length ≤ 64
theorem QOk.srt {qs : List RfQ} (h : QOk qs) : Srt (qs.map RfQ.pl) := by
 unfold Srt
 rw [map_map]
 exact h.up
theorem QOk.bl {qs : List RfQ} (h : QOk qs) {q : RfQ} (hq : q ∈ qs) : q.b.length ≤ 1048576 := by
 have := sum_mem_le (mem_map.2 ⟨q, hq, rfl⟩ : q.b.length ∈ qs.map fun q => q.b.length)
 have := h.used
 omega
theorem RfQ.cml {q : RfQ} (h : q.Ok) : q.pl.cm.length = q.b.length := by
 show (List.replicate q.s (0 : Int) ++ q.ts).length = _
 rw [length_append, length_replicate]; exact h.e
theorem q_nth {qs : List RfQ} {k : Nat} {q : RfQ} (h : qs[k]? = some q) : (qs.map RfQ.pl)[k]? = some q.pl := by rw [List.getElem?_map, h]; rfl
set_option maxHeartbeats 1000000 in
theorem rfiles_ct {fs : List RfP} {t : Int} {d : Nat} {h : Hp} (hd : IsRk fs t d h) (hl : fs.length ≤ 1099511627776) :
  Ct prog 94 [.pointer (some ⟨d, 0, none⟩)] [h] (fun r H' => ∃ hn, H' = [h, hn] ∧ IsSl 3 (fs.map (·.n)) r hn) := by
 obtain ⟨lv, gs, lh, hd, rfl⟩ := hd
 have hr := hd.sl.rs
 have hgl := hd.len
 obtain ⟨lp, lc, rfl⟩ := hr.len
 refine Ct.pack (pre := [RBk d (.slice lp (gs.map Gf.gp).length lc) t, lh, ghp gs]) (post := fun r H' => ∃ hn, H' = [RBk d (.slice lp (gs.map Gf.gp).length lc) t, lh, ghp gs, hn] ∧ IsSl 3 (fs.map (·.n)) r hn) ?_ (by simp) (fun r H' ⟨hn, e, p⟩ => ⟨[RBk d (.slice lp (gs.map Gf.gp).length lc) t ++ (lh ++ ghp gs), hn], by rw [e]; simp, hn, rfl, p⟩)
 refine Ct.mk' func94 rfl rfl rfl (fun g R => ?_)
 try simp only [ca]
 simp only [na]
 try refine run ?_
 refine W.nilH ?_
 refine W.loop (α := Nat × Value × Hp) (fun x => x.1 ≤ fs.length ∧ IsSl 3 ((fs.take x.1).map (·.n)) x.2.1 x.2.2) (fun x => [(0, .pointer (some ⟨d, 0, none⟩)), (3, x.2.1), (4, .int .i64 (x.1 : Int))]) (fun x => [x.2.2, RBk d (.slice lp (gs.map Gf.gp).length lc) t, lh, ghp gs, R]) (fun x => fs.length - x.1) (0, .slice none 0 0, []) ⟨Nat.zero_le _, IsSl.nil _⟩ (by repeat (first | exact Fsub.nil | refine Fsub.cons rfl ?_)) (Hsub.of_picks inferInstance) ?_
 rintro ⟨k, u, hu⟩ ⟨hk, hsu⟩
 simp only [] at hk hsu ⊢
 by_cases hkl : k < fs.length
 ·obtain ⟨y, hy⟩ : ∃ y, fs[k]? = some y := ⟨_, List.getElem?_eq_getElem hkl⟩
  obtain ⟨a', g', b', e1', e3', hok', hat'⟩ := hd.nth hy
  have hnn : g'.n = y.n := by rw [← e3']; rfl
  have hsn : (fs.take (k + 1)).map (·.n) = (fs.take k).map (·.n) ++ [g'.n] := by
   rw [take_succ_eq_append_getElem hkl, (List.getElem?_eq_some_iff.1 hy).2, map_append, hnn]; rfl
  refine W.flat (H' := [hu, RBk d (.slice lp (gs.map Gf.gp).length lc) t, lh, ghp a', g'.bk, g'.hb, g'.hc, ghp b', R]) (by rw [e1', ghp_split]; simp) ?_
  try refine run ?_
  refine I.bs ?_
  refine WX.lit (ys := [g'.n]) rfl rfl rfl rfl rfl rfl (by decide) rfl (fun v1 h1 hs1 => ?_)
  refine WX.app rfl rfl hsu hs1.rs rfl rfl (by decide) (by rw [length_map, length_take]; simp only [length_cons, length_nil]; omega) rfl (fun v2 h2 hs2 => ?_)
  rw [← hsn] at hs2
  try refine run ?_
  refine D.flat (H' := [h1, h2, RBk d (.slice lp (gs.map Gf.gp).length lc) t, lh, ghp gs, R]) (by rw [e1', ghp_split]; simp) ?_
  exact D.rd (k + 1, v2, h2) ⟨by simp only []; omega, hs2⟩ (by simp only []; omega)
 ·obtain rfl : k = fs.length := by omega
  rw [take_length] at hsu
  try refine run ?_
  exact D.fin1 [RBk d (.slice lp (gs.map Gf.gp).length lc) t, lh, ghp gs, hu] _ rfl rfl ⟨_, rfl, hsu⟩
theorem Rk3.put {fs : List RfP} {lv : Value} {a b : List Gf} {y0 y1 : Gf} {lh : Hp} (h : Rk3 fs lv (a ++ y0 :: b) lh) (hb : y1.blk = y0.blk) (hok : y1.Ok) : Rk3 (a.map Gf.pl ++ y1.pl :: b.map Gf.pl) lv (a ++ y1 :: b) lh where
 ok := fun x hx => by
  rcases mem_append.1 hx with hx | hx
  ·exact h.ok x (by simp [hx])
  ·rcases mem_cons.1 hx with rfl | hx
   ·exact hok
   ·exact h.ok x (by simp [hx])
 fs := by simp
 sl := by
  have e : (a ++ y1 :: b).map Gf.gp = (a ++ y0 :: b).map Gf.gp := by
   simp only [map_append, map_cons]
   rw [show y1.gp = y0.gp from by unfold Gf.gp; rw [hb]]
  rw [e]
  exact h.sl
theorem q_split {qs : List RfQ} {a : List Gf} {y0 : Gf} {b : List Gf} {q : RfQ} {k : Nat} (hq : qs[k]? = some q) (h : a.map Gf.pl ++ y0.pl :: b.map Gf.pl = qs.map RfQ.pl) (hk : a.length = k) {y1 : Gf} {q1 : RfQ} (e : y1.pl = q1.pl) : a.map Gf.pl ++ y1.pl :: b.map Gf.pl = (qs.set k q1).map RfQ.pl := by
 obtain ⟨h1, h2⟩ := List.getElem?_eq_some_iff.1 hq
 rw [List.map_set, ← h, ← hk, set_append_right _ _ (by simp), length_map, Nat.sub_self, set_cons_zero, e]
theorem Rk3.nthL {fs : List RfP} {x : RfP} {lv : Value} {gs : List Gf} {lh : Hp} (h : Rk3 fs lv gs lh) {k : Nat} (hx : fs[k]? = some x) : ∃ a y0 b, gs = a ++ y0 :: b ∧ y0.pl = x ∧ a.length = k := by
 obtain ⟨e, hl⟩ := split_at hx
 obtain ⟨a, y0, b, e1, -, e3, -, -, hal, -, -⟩ := h.at e
 exact ⟨a, y0, b, e1, e3, hal.trans hl⟩
def RfQ.syn (q : RfQ) : RfQ := ⟨q.n, q.b, q.b.length, []⟩
theorem rep_step {cm : List Int} {k : Nat} (h : k < cm.length) : (List.replicate k (0 : Int) ++ cm.drop k).set k 0 = List.replicate (k + 1) 0 ++ cm.drop (k + 1) := by
 rw [set_append_right _ _ (by simp), length_replicate, Nat.sub_self, drop_eq_getElem_cons h, set_cons_zero, replicate_succ', append_assoc]
 rfl
set_option maxHeartbeats 2000000 in
theorem rsync_ct {qs : List RfQ} (ok : QOk qs) {t : Int} {d : Nat} {h : Hp} (hd : IsRk (qs.map RfQ.pl) t d h) {k : Nat} {q : RfQ} (hq : qs[k]? = some q) :
  Ct prog 156 [.pointer (some ⟨d, 0, none⟩), .int .i64 q.n] [h] (fun r H' => ∃ h', r = .int .i64 0 ∧ H' = [h'] ∧ IsRk ((qs.set k q.syn).map RfQ.pl) t d h') := by
 have hqo := ok.ok q (mem_of_getElem? hq)
 have hbl := ok.bl (mem_of_getElem? hq)
 have hcml := RfQ.cml hqo
 have hll := ok.len
 obtain ⟨lv, gs, lh, hd, rfl⟩ := hd
 obtain ⟨a, y0, b, rfl, e, hal⟩ := hd.nthL (q_nth hq)
 obtain ⟨hok, hat⟩ := hd.me
 have hr := hd.sl.rs
 obtain ⟨lp, lc, rfl⟩ := hr.len
 have hn : y0.n = q.n := congrArg RfP.n e
 have hbb : y0.b = q.b := congrArg RfP.b e
 have hcl : y0.cm.length = q.b.length := by rw [← hcml, ← e]; rfl
 rw [← hn]
 refine Ct.pack (pre := [RBk d (.slice lp ((a ++ y0 :: b).map Gf.gp).length lc) t, lh, ghp a, y0.bk, y0.hb, y0.hc, ghp b])
  (post := fun r H' => ∃ hc', r = .int .i64 0 ∧ H' = [RBk d (.slice lp ((a ++ y0 :: b).map Gf.gp).length lc) t, lh, ghp a, y0.bk, y0.hb, hc', ghp b] ∧ IsSl 3 (List.replicate q.b.length (0 : Int)) (.slice y0.pc y0.lc y0.cc) hc') ?_ (by rw [ghp_split]; simp)
  (fun r H' ⟨hc', e1, e2, e3⟩ => ⟨[[RBk d (.slice lp ((a ++ y0 :: b).map Gf.gp).length lc) t, lh, ghp a, y0.bk, y0.hb, hc', ghp b].flatten], by rw [e2]; simp, _, e1, rfl, .slice lp ((a ++ y0 :: b).map Gf.gp).length lc, a ++ ⟨y0.n, y0.b, List.replicate q.b.length 0, y0.blk, y0.pb, y0.lb, y0.cb, y0.hb, y0.pc, y0.lc, y0.cc, hc'⟩ :: b, lh, ?_, by rw [ghp_split]; simp⟩)
 ·refine Ct.mk' func156 rfl rfl rfl (fun g R => ?_)
  try simp only [ca]
  simp only [na]
  try refine run ?_
  refine WX.callQ rfl (rfind_s (t := t) hd ok.srt (by rw [length_map]; omega)) rfl ?_
  try refine run ?_
  refine W.loop (α := Nat × Hp) (fun x => x.1 ≤ y0.cm.length ∧ IsSl 3 (List.replicate x.1 (0 : Int) ++ y0.cm.drop x.1) (.slice y0.pc y0.lc y0.cc) x.2) (fun x => [(0, .pointer (some ⟨d, 0, none⟩)), (5, .int .i64 (a.length : Int)), (7, .int .i64 (x.1 : Int))])
   (fun x => [RBk d (.slice lp ((a ++ y0 :: b).map Gf.gp).length lc) t, lh, ghp a, y0.bk, y0.hb, x.2, ghp b, R]) (fun x => y0.cm.length - x.1) (0, y0.hc) ⟨Nat.zero_le _, by simpa using hok.c⟩ (by repeat (first | exact Fsub.nil | refine Fsub.cons rfl ?_)) (Hsub.of_picks inferInstance) ?_
  rintro ⟨j, hc'⟩ ⟨hj, hsc⟩
  simp only [] at hj hsc ⊢
  have hrc := hsc.rs
  have hln : (List.replicate j (0 : Int) ++ y0.cm.drop j).length = y0.cm.length := by rw [length_append, length_replicate, length_drop]; omega
  by_cases hjl : j < y0.cm.length
  ·obtain ⟨x, hx⟩ : ∃ x, (List.replicate j (0 : Int) ++ y0.cm.drop j)[j]? = some x := ⟨_, List.getElem?_eq_getElem (by omega)⟩
   try refine run ?_
   refine I.st ?_
   refine WX.storeE (y' := (0 : Int)) (vs := [.int .i64 0]) rfl rfl rfl hsc hx rfl rfl rfl rfl rfl (fun h2 hs2 => ?_)
   rw [rep_step hjl] at hs2
   try refine run ?_
   exact D.rd (j + 1, h2) ⟨by simp only []; omega, hs2⟩ (by simp only []; omega)
  ·obtain rfl : j = y0.cm.length := by omega
   rw [drop_length, append_nil, hcl] at hsc
   try refine run ?_
   exact D.fin1 [RBk d (.slice lp ((a ++ y0 :: b).map Gf.gp).length lc) t, lh, ghp a, y0.bk, y0.hb, hc', ghp b] _ rfl rfl ⟨_, rfl, rfl, hsc⟩
 ·have := hd.put (y1 := ⟨y0.n, y0.b, List.replicate q.b.length 0, y0.blk, y0.pb, y0.lb, y0.cb, y0.hb, y0.pc, y0.lc, y0.cc, hc'⟩) rfl ⟨hok.b, e3, by simp [hbb]⟩
  rw [q_split hq hd.split.symm hal (q1 := q.syn) (by unfold Gf.pl RfQ.pl RfQ.syn; simp [hn, hbb])] at this
  have hlen : ((a ++ (⟨y0.n, y0.b, List.replicate q.b.length 0, y0.blk, y0.pb, y0.lb, y0.cb, y0.hb, y0.pc, y0.lc, y0.cc, hc'⟩ : Gf) :: b).map Gf.gp).length = ((a ++ y0 :: b).map Gf.gp).length := by simp
  exact this
theorem ghp_app {a b : List Gf} : ghp (a ++ b) = ghp a ++ ghp b := by simp [ghp]
theorem q_erase {qs : List RfQ} {a : List Gf} {y0 : Gf} {b : List Gf} {k : Nat} (h : a.map Gf.pl ++ y0.pl :: b.map Gf.pl = qs.map RfQ.pl) (hk : a.length = k) : (a ++ b).map Gf.pl = (qs.eraseIdx k).map RfQ.pl := by
 rw [eraseIdx_eq_take_drop_succ, map_append, map_append, map_take, map_drop, ← h, ← hk]
 rw [take_left' (by simp), ← drop_drop, drop_left' (by simp)]
 rfl
set_option maxHeartbeats 2000000 in
theorem rremove_ct {qs : List RfQ} (ok : QOk qs) {t : Int} {d : Nat} {h : Hp} (hd : IsRk (qs.map RfQ.pl) t d h) {k : Nat} {q : RfQ} (hq : qs[k]? = some q) :
  Ct prog 96 [.pointer (some ⟨d, 0, none⟩), .int .i64 q.n] [h] (fun r H' => ∃ h', r = .int .i64 0 ∧ H' = [h'] ∧ IsRk ((qs.eraseIdx k).map RfQ.pl) t d h') := by
 have hll := ok.len
 obtain ⟨lv, gs, lh, hd, rfl⟩ := hd
 obtain ⟨a, y0, b, rfl, e, hal⟩ := hd.nthL (q_nth hq)
 have hkl : k < qs.length := (List.getElem?_eq_some_iff.1 hq).1
 have hgl : ((a ++ y0 :: b).map Gf.gp).length = qs.length := hd.len.trans (length_map _)
 have hr := hd.sl.rs
 have hr0 := hr
 obtain ⟨lp, lc, rfl⟩ := hr.len
 have hcap : ((a ++ y0 :: b).map Gf.gp).length ≤ lc := by obtain ⟨aa, cc, e, le, _⟩ := id hr; cases e; exact le
 have hn : y0.n = q.n := congrArg RfP.n e
 have htk := hr.take (m := a.length) (by omega)
 have hfr := hr.from (m := 1) rfl (lo := a.length + 1) (by omega)
 have e1 : ((a ++ y0 :: b).map Gf.gp).take a.length = a.map Gf.gp := by rw [map_append, take_left' (by simp)]
 have e2 : ((a ++ y0 :: b).map Gf.gp).drop (a.length + 1) = b.map Gf.gp := by rw [map_append, ← drop_drop, drop_left' (by simp)]; rfl
 rw [e1] at htk
 rw [e2] at hfr
 have hbl : (a.map Gf.gp).length + (b.map Gf.gp).length ≤ 64 := by
  rw [map_append, length_append, map_cons, length_cons] at hgl; omega
 rw [← hn]
 refine Ct.pack (pre := [RBk d (.slice lp ((a ++ y0 :: b).map Gf.gp).length lc) t, lh, ghp a, y0.bk, y0.hb, y0.hc, ghp b])
  (post := fun r H' => ∃ lv' lh', r = .int .i64 0 ∧ H' = [RBk d lv' t, lh', ghp a, ghp b] ∧ IsSl 189 ((a ++ b).map Gf.gp) lv' lh') ?_ (by rw [ghp_split]; simp)
  (fun r H' ⟨lv', lh', e1, e2, e3⟩ => ⟨[[RBk d lv' t, lh', ghp a, ghp b].flatten], by rw [e2]; simp, _, e1, rfl, lv', a ++ b, lh', ⟨fun x hx => hd.ok x (by rcases mem_append.1 hx with hx | hx <;> simp [hx]), q_erase hd.split.symm hal, e3⟩, by rw [ghp_app]; simp⟩)
 refine Ct.mk' func96 rfl rfl rfl (fun g R => ?_)
 try simp only [ca]
 simp only [na]
 try refine run ?_
 refine WX.callQ rfl (rfind_s (t := t) hd ok.srt (by rw [length_map]; omega)) rfl ?_
 try refine run ?_
 refine WX.nilH ?_
 refine WX.app rfl rfl (IsSl.nil _) htk rfl rfl (by decide) (by simp only [length_nil]; omega) rfl (fun v1 h1 hs1 => ?_)
 rw [nil_append] at hs1
 try refine run ?_
 refine WX.as 31 (.int .i64 ((a.length + 1 : Nat) : Int)) rfl rfl ?_
 refine I.sl ?_
 refine WX.cutFrom (lo := a.length + 1) rfl rfl (by omega) hcap rfl ?_
 refine WX.app rfl rfl hs1 hfr rfl rfl (by decide) (by omega) rfl (fun v2 h2 hs2 => ?_)
 rw [← map_append] at hs2
 obtain ⟨p2, n2, c2, rfl⟩ := hs2.sh
 try refine run ?_
 exact D.fin1 [RBk d (.slice p2 n2 c2) t, h2, ghp a, ghp b] _ rfl rfl ⟨_, _, rfl, rfl, hs2⟩
def RfQ.cut (q : RfQ) (m : Nat) : RfQ := ⟨q.n, q.b.take m, m, []⟩
set_option maxHeartbeats 2000000 in
theorem rtrunc_ct {qs : List RfQ} (ok : QOk qs) {t : Int} {d : Nat} {h : Hp} (hd : IsRk (qs.map RfQ.pl) t d h) {k : Nat} {q : RfQ} (hq : qs[k]? = some q) (hts : q.ts = []) {m : Nat} (hm : m ≤ q.b.length) :
  Ct prog 98 [.pointer (some ⟨d, 0, none⟩), .int .i64 q.n, .int .i64 (m : Int)] [h] (fun r H' => ∃ h', r = .int .i64 0 ∧ H' = [h'] ∧ IsRk ((qs.set k (q.cut m)).map RfQ.pl) t d h') := by
 have hqo := ok.ok q (mem_of_getElem? hq)
 have hqe := hqo.e
 have hbl := ok.bl (mem_of_getElem? hq)
 have hll := ok.len
 obtain ⟨lv, gs, lh, hd, rfl⟩ := hd
 obtain ⟨a, y0, b, rfl, e, hal⟩ := hd.nthL (q_nth hq)
 obtain ⟨hok, hat⟩ := hd.me
 have hr := hd.sl.rs
 have hrb := hok.b.rs
 have hrc := hok.c.rs
 obtain ⟨lp, lc, rfl⟩ := hr.len
 have hn : y0.n = q.n := congrArg RfP.n e
 have hbb : y0.b = q.b := congrArg RfP.b e
 have hbbl : y0.b.length = q.b.length := by rw [hbb]
 have hcm : y0.cm = List.replicate q.s (0 : Int) ++ q.ts := congrArg RfP.cm e
 have hoe := hok.e
 rw [hts, length_nil] at hqe
 rw [hts, append_nil] at hcm
 have hct : y0.cm.take m = List.replicate m 0 := by rw [hcm, take_replicate]; congr 1; omega
 have hb2 := hok.b.to (m := m) (by omega)
 have hc2 := hok.c.to (m := m) (by omega)
 rw [hct] at hc2
 rw [hbb] at hb2
 rw [← hn]
 refine Ct.pack (pre := [RBk d (.slice lp ((a ++ y0 :: b).map Gf.gp).length lc) t, lh, ghp a, y0.bk, y0.hb, y0.hc, ghp b])
  (post := fun r H' => r = .int .i64 0 ∧ H' = [RBk d (.slice lp ((a ++ y0 :: b).map Gf.gp).length lc) t, lh, ghp a, GBk y0.blk y0.n (.slice y0.pb m y0.cb) (.slice y0.pc m y0.cc), y0.hb, y0.hc, ghp b]) ?_ (by rw [ghp_split]; simp)
  (fun r H' ⟨e1, e2⟩ => ⟨[[RBk d (.slice lp ((a ++ y0 :: b).map Gf.gp).length lc) t, lh, ghp a, GBk y0.blk y0.n (.slice y0.pb m y0.cb) (.slice y0.pc m y0.cc), y0.hb, y0.hc, ghp b].flatten], by rw [e2]; simp, _, e1, rfl, .slice lp ((a ++ y0 :: b).map Gf.gp).length lc, a ++ ⟨y0.n, q.b.take m, List.replicate m 0, y0.blk, y0.pb, m, y0.cb, y0.hb, y0.pc, m, y0.cc, y0.hc⟩ :: b, lh, ?_, by rw [ghp_split]; simp⟩)
 ·refine Ct.mk' func98 rfl rfl rfl (fun g R => ?_)
  try simp only [ca]
  simp only [na]
  try refine run ?_
  refine WX.callQ rfl (rfind_s (t := t) hd ok.srt (by rw [length_map]; omega)) rfl ?_
  try refine run ?_
  refine W.mix (List.replicate 19 true) [RBk d (.slice lp ((a ++ y0 :: b).map Gf.gp).length lc) t, lh, ghp a, y0.bk, y0.hb, y0.hc, ghp b] Tryz.mix (by kernel_rfl) ?_
  try refine run ?_
  refine W.hp (H' := [RBk d (.slice lp ((a ++ y0 :: b).map Gf.gp).length lc) t, lh, ghp a, GBk y0.blk y0.n (.slice y0.pb m y0.cb) (.slice y0.pc y0.lc y0.cc), y0.hb, y0.hc, ghp b, R]) rfl ?_
  refine W.mix (List.replicate 19 true) [RBk d (.slice lp ((a ++ y0 :: b).map Gf.gp).length lc) t, lh, ghp a, GBk y0.blk y0.n (.slice y0.pb m y0.cb) (.slice y0.pc y0.lc y0.cc), y0.hb, y0.hc, ghp b] Tryz.mix (by kernel_rfl) ?_
  try refine run ?_
  refine D.hp (H' := [RBk d (.slice lp ((a ++ y0 :: b).map Gf.gp).length lc) t, lh, ghp a, GBk y0.blk y0.n (.slice y0.pb m y0.cb) (.slice y0.pc m y0.cc), y0.hb, y0.hc, ghp b, R]) rfl ?_
  exact D.fin1 [RBk d (.slice lp ((a ++ y0 :: b).map Gf.gp).length lc) t, lh, ghp a, GBk y0.blk y0.n (.slice y0.pb m y0.cb) (.slice y0.pc m y0.cc), y0.hb, y0.hc, ghp b] _ rfl rfl ⟨rfl, rfl⟩
 ·have := hd.put (y1 := ⟨y0.n, q.b.take m, List.replicate m 0, y0.blk, y0.pb, m, y0.cb, y0.hb, y0.pc, m, y0.cc, y0.hc⟩) rfl ⟨hb2, hc2, by simp only [length_replicate, length_take]; omega⟩
  rw [q_split hq hd.split.symm hal (q1 := q.cut m) (by unfold Gf.pl RfQ.pl RfQ.cut; simp [hn])] at this
  exact this
def tms (t : Int) (k : Nat) : List Int := (List.range k).map fun (i : Nat) => t + 1 + (i : Int)
theorem tms_len (t : Int) (k : Nat) : (tms t k).length = k := by unfold tms; simp
theorem tms_succ (t : Int) (k : Nat) : tms t (k + 1) = tms t k ++ [t + (k : Int) + 1] := by
 unfold tms
 rw [range_succ, map_append]
 congr 1
 simp only [map_cons, map_nil]
 congr 1
 omega
def RfQ.app (q : RfQ) (bs : List UInt8) (t : Int) : RfQ := ⟨q.n, q.b ++ bs, q.s, q.ts ++ tms t bs.length⟩
set_option maxHeartbeats 4000000 in
theorem rappend_old {qs : List RfQ} (ok : QOk qs) {t : Int} (ht0 : 0 ≤ t) (ht1 : t ≤ 1099511627776) {d : Nat} {h hx : Hp} (hd : IsRk (qs.map RfQ.pl) t d h) {k : Nat} {q : RfQ} (hq : qs[k]? = some q) (hn0 : 0 ≤ q.n) (hn1 : q.n ≤ 1099511627776)
  {bs : List UInt8} {u : Value} (hb : Rs bs u hx) (hul : (qs.map fun q => q.b.length).sum + bs.length ≤ 1048576) :
  Ct prog 155 [.pointer (some ⟨d, 0, none⟩), .int .i64 q.n, u] [h, hx] (fun r H' => ∃ h', r = .int .i64 0 ∧ H' = [h', hx] ∧ IsRk ((qs.set k (q.app bs t)).map RfQ.pl) (t + bs.length) d h') := by
 have hqo := ok.ok q (mem_of_getElem? hq)
 have hqe := hqo.e
 have hbl := ok.bl (mem_of_getElem? hq)
 have hcml := RfQ.cml hqo
 have hll := ok.len
 obtain ⟨lv, gs, lh, hd, rfl⟩ := hd
 obtain ⟨a, y0, b, rfl, e, hal⟩ := hd.nthL (q_nth hq)
 obtain ⟨hok, hat⟩ := hd.me
 have hr := hd.sl.rs
 obtain ⟨lp, lc, rfl⟩ := hr.len
 have hn : y0.n = q.n := congrArg RfP.n e
 have hbb : y0.b = q.b := congrArg RfP.b e
 have hbbl : y0.b.length = q.b.length := by rw [hbb]
 have hcl : y0.cm.length = q.b.length := by rw [← hcml, ← e]; rfl
 have hcm : y0.cm = List.replicate q.s (0 : Int) ++ q.ts := congrArg RfP.cm e
 have hus := rused_ct (d := d) (t := t) hd (by rw [length_map]; omega) (by rw [map_map]; have := ok.used; exact Nat.le_trans this (by decide))
 rw [map_map] at hus
 have hus : Ct prog 152 [.pointer (some ⟨d, 0, none⟩)] [RBk d (.slice lp ((a ++ y0 :: b).map Gf.gp).length lc) t, lh, ghp a, y0.bk, y0.hb, y0.hc, ghp b] (fun r H' => r = .int .i64 (((qs.map fun q => q.b.length).sum : Nat) : Int) ∧ H' = [RBk d (.slice lp ((a ++ y0 :: b).map Gf.gp).length lc) t, lh, ghp a, y0.bk, y0.hb, y0.hc, ghp b]) :=
  hus.pack (by rw [ghp_split]; simp) (fun r H' p => ⟨_, by rw [p.2, ghp_split]; simp, p.1, rfl⟩)
 generalize (qs.map fun q => q.b.length).sum = U at *
 rw [← hn] at hn0 hn1 ⊢
 refine Ct.pack (pre := [RBk d (.slice lp ((a ++ y0 :: b).map Gf.gp).length lc) t, lh, ghp a, y0.bk, y0.hb, y0.hc, ghp b, hx])
  (post := fun r H' => ∃ pb lb cb hb' pc lc2 cc hc', r = .int .i64 0 ∧ H' = [RBk d (.slice lp ((a ++ y0 :: b).map Gf.gp).length lc) (t + bs.length), lh, ghp a, GBk y0.blk y0.n (.slice pb lb cb) (.slice pc lc2 cc), hb', hc', ghp b, hx] ∧ IsSl 5 (y0.b ++ bs) (.slice pb lb cb) hb' ∧ IsSl 3 (y0.cm ++ tms t bs.length) (.slice pc lc2 cc) hc') ?_ (by rw [ghp_split]; simp)
  (fun r H' ⟨pb, lb, cb, hb', pc, lc2, cc, hc', e1, e2, e3, e4⟩ => ⟨[[RBk d (.slice lp ((a ++ y0 :: b).map Gf.gp).length lc) (t + bs.length), lh, ghp a, GBk y0.blk y0.n (.slice pb lb cb) (.slice pc lc2 cc), hb', hc', ghp b].flatten, hx], by rw [e2]; simp, _, e1, rfl, .slice lp ((a ++ y0 :: b).map Gf.gp).length lc, a ++ ⟨y0.n, y0.b ++ bs, y0.cm ++ tms t bs.length, y0.blk, pb, lb, cb, hb', pc, lc2, cc, hc'⟩ :: b, lh, ?_, by rw [ghp_split]; simp⟩)
 ·refine Ct.mk' func155 rfl rfl rfl (fun g R => ?_)
  try simp only [ca]
  simp only [na]
  try refine run ?_
  refine WX.callQ rfl (rfind_s (t := t) hd ok.srt (by rw [length_map]; omega)) rfl ?_
  try refine run ?_
  refine WX.callQ rfl hus rfl ?_
  try refine run ?_
  refine W.loop (α := Nat × Int × Option Addr × Nat × Nat × Hp × Option Addr × Nat × Nat × Hp) (fun x => x.1 ≤ bs.length ∧ x.2.1 = t + (x.1 : Int) ∧ IsSl 5 (y0.b ++ bs.take x.1) (.slice x.2.2.1 x.2.2.2.1 x.2.2.2.2.1) x.2.2.2.2.2.1 ∧ IsSl 3 (y0.cm ++ tms t x.1) (.slice x.2.2.2.2.2.2.1 x.2.2.2.2.2.2.2.1 x.2.2.2.2.2.2.2.2.1) x.2.2.2.2.2.2.2.2.2)
   (fun x => [(0, .pointer (some ⟨d, 0, none⟩)), (2, u), (10, .pointer (some ⟨y0.blk, 0, none⟩)), (11, .int .i64 (x.1 : Int))])
   (fun x => [RBk d (.slice lp ((a ++ y0 :: b).map Gf.gp).length lc) x.2.1, GBk (y0.blk) (y0.n) (.slice x.2.2.1 x.2.2.2.1 x.2.2.2.2.1) (.slice x.2.2.2.2.2.2.1 x.2.2.2.2.2.2.2.1 x.2.2.2.2.2.2.2.2.1), x.2.2.2.2.2.1, x.2.2.2.2.2.2.2.2.2, hx, lh, ghp a, ghp b, R]) (fun x => bs.length - x.1) (0, t, y0.pb, y0.lb, y0.cb, y0.hb, y0.pc, y0.lc, y0.cc, y0.hc) ⟨Nat.zero_le _, by simp, by simpa using hok.b, by simpa [tms] using hok.c⟩ (by repeat (first | exact Fsub.nil | refine Fsub.cons rfl ?_)) (Hsub.of_picks inferInstance) ?_
  rintro ⟨i, tt, pb, lb, cb, hb, pc, lc2, cc, hc⟩ ⟨hi, htt, hsb, hsc⟩
  simp only [] at hi htt hsb hsc ⊢
  by_cases hil : i < bs.length
  ·obtain ⟨y, hy⟩ : ∃ y, bs[i]? = some y := ⟨_, List.getElem?_eq_getElem hil⟩
   have htk : bs.take (i + 1) = bs.take i ++ [y] := by rw [take_succ_eq_append_getElem hil, (List.getElem?_eq_some_iff.1 hy).2]
   have htl : (bs.take i).length ≤ bs.length := by rw [length_take]; omega
   have htm : tms t (i + 1) = tms t i ++ [tt + 1] := by rw [tms_succ, htt]
   have htn := tms_len t i
   try refine run ?_
   refine W.mix (List.replicate 9 true ++ [false, false]) [GBk (y0.blk) (y0.n) (.slice pb lb cb) (.slice pc lc2 cc), hx] Tryz.mix (by kernel_rfl) ?_
   try refine run ?_
   refine I.bs ?_
   refine WX.lit (ys := [y]) rfl rfl rfl rfl rfl rfl (by decide) rfl (fun v1 h1 hs1 => ?_)
   try refine run ?_
   refine WX.app rfl rfl hsb hs1.rs rfl rfl (by decide) (by simp only [length_append, length_cons, length_nil]; omega) rfl (fun v2 h2 hs2 => ?_)
   rw [append_assoc, ← htk] at hs2
   obtain ⟨p2, n2, c2, rfl⟩ := hs2.sh
   try refine run ?_
   refine W.mix (List.replicate 9 true ++ [false, false]) [GBk (y0.blk) (y0.n) (.slice p2 n2 c2) (.slice pc lc2 cc), RBk d (.slice lp ((a ++ y0 :: b).map Gf.gp).length lc) (tt + 1)] Tryz.mix (by kernel_rfl) ?_
   try refine run ?_
   refine I.bs ?_
   refine WX.lit (ys := [tt + 1]) rfl rfl rfl rfl rfl rfl (by decide) rfl (fun v3 h3 hs3 => ?_)
   try refine run ?_
   refine WX.app rfl rfl hsc hs3.rs rfl rfl (by decide) (by simp only [length_append, length_cons, length_nil]; omega) rfl (fun v4 h4 hs4 => ?_)
   rw [append_assoc, ← htm] at hs4
   obtain ⟨p4, n4, c4, rfl⟩ := hs4.sh
   try refine run ?_
   exact D.rd (i + 1, tt + 1, p2, n2, c2, h2, p4, n4, c4, h4) ⟨by simp only []; omega, by simp only []; omega, hs2, hs4⟩ (by simp only []; omega)
  ·obtain rfl : i = bs.length := by omega
   rw [take_length] at hsb
   subst htt
   try refine run ?_
   exact D.fin1 [RBk d (.slice lp ((a ++ y0 :: b).map Gf.gp).length lc) (t + bs.length), lh, ghp a, GBk y0.blk y0.n (.slice pb lb cb) (.slice pc lc2 cc), hb, hc, ghp b, hx] _ rfl rfl ⟨_, _, _, _, _, _, _, _, rfl, rfl, hsb, hsc⟩
 ·have := hd.put (y1 := ⟨y0.n, y0.b ++ bs, y0.cm ++ tms t bs.length, y0.blk, pb, lb, cb, hb', pc, lc2, cc, hc'⟩) rfl ⟨e3, e4, by simp only [length_append, tms_len]; omega⟩
  rw [q_split hq hd.split.symm hal (q1 := q.app bs t) (by unfold Gf.pl RfQ.pl RfQ.app; simp [hn, hbb, hcm])] at this
  exact this
def used7 (qs : List RfQ) : Nat := (qs.map fun q => q.b.length).sum
theorem rused_q {qs : List RfQ} (ok : QOk qs) {lv : Value} {gs : List Gf} {lh : Hp} (hd : Rk3 (qs.map RfQ.pl) lv gs lh) {d : Nat} {t : Int} :
  Ct prog 152 [.pointer (some ⟨d, 0, none⟩)] [RBk d lv t, lh, ghp gs] (fun r H' => r = .int .i64 (used7 qs : Int) ∧ H' = [RBk d lv t, lh, ghp gs]) := by
 have hll := ok.len
 have hus := rused_ct (d := d) (t := t) hd (by rw [length_map]; omega) (by rw [map_map]; have := ok.used; exact Nat.le_trans this (by decide))
 rw [map_map] at hus
 exact hus
set_option maxHeartbeats 4000000 in
theorem rappend_new {qs : List RfQ} (ok : QOk qs) {t : Int} (ht0 : 0 ≤ t) (ht1 : t ≤ 1099511627776) {d : Nat} {h hx : Hp} (hd : IsRk (qs.map RfQ.pl) t d h) {n : Int} (hlt : ∀ q ∈ qs, q.n < n) (hn0 : 0 ≤ n) (hn1 : n ≤ 1099511627776) (hlen : qs.length < 64)
  {bs : List UInt8} {u : Value} (hb : Rs bs u hx) (hul : used7 qs + bs.length ≤ 1048576) :
  Ct prog 155 [.pointer (some ⟨d, 0, none⟩), .int .i64 n, u] [h, hx] (fun r H' => ∃ h', r = .int .i64 0 ∧ H' = [h', hx] ∧ IsRk ((qs ++ [(⟨n, bs, 0, tms t bs.length⟩ : RfQ)]).map RfQ.pl) (t + bs.length) d h') := by
 obtain ⟨lv, gs, lh, hd, rfl⟩ := hd
 have hgl : (gs.map Gf.gp).length = qs.length := hd.len.trans (length_map _)
 have hgg : gs.length = qs.length := by rw [length_map] at hgl; exact hgl
 have hpl : (qs.map RfQ.pl).length = qs.length := length_map _
 have hus := rused_q (d := d) (t := t) ok hd
 have hr := hd.sl.rs
 have hfind := rfind_end (d := d) (t := t) hd (n := n) (fun y hy => by obtain ⟨q, hq, rfl⟩ := mem_map.1 hy; exact hlt q hq) (by omega)
 unfold rfPost at hfind
 rw [hpl] at hfind
 obtain ⟨lp, lc, rfl⟩ := hr.len
 have hcap : (gs.map Gf.gp).length ≤ lc := by obtain ⟨aa, cc, e, le, _⟩ := id hr; cases e; exact le
 have htk := hr.take (m := qs.length) (by omega)
 have hfr := hr.from (m := 1) rfl (lo := qs.length) (by omega)
 rw [take_of_length_le (by omega)] at htk
 rw [drop_eq_nil_of_le (by omega)] at hfr
 refine Ct.pack (pre := [RBk d (.slice lp (gs.map Gf.gp).length lc) t, lh, ghp gs, hx])
  (post := fun r H' => ∃ lv' lh' blk pb lb cb hb' pc lc2 cc hc', r = .int .i64 0 ∧ H' = [RBk d lv' (t + bs.length), lh', ghp gs, GBk blk n (.slice pb lb cb) (.slice pc lc2 cc), hb', hc', hx] ∧ IsSl 189 (gs.map Gf.gp ++ [⟨blk⟩]) lv' lh' ∧ IsSl 5 bs (.slice pb lb cb) hb' ∧ IsSl 3 (tms t bs.length) (.slice pc lc2 cc) hc') ?_ (by simp)
  (fun r H' ⟨lv', lh', blk, pb, lb, cb, hb', pc, lc2, cc, hc', e1, e2, e0, e3, e4⟩ => ⟨[[RBk d lv' (t + bs.length), lh', ghp gs, GBk blk n (.slice pb lb cb) (.slice pc lc2 cc), hb', hc'].flatten, hx], by rw [e2]; simp, _, e1, rfl, lv', gs ++ [⟨n, bs, tms t bs.length, blk, pb, lb, cb, hb', pc, lc2, cc, hc'⟩], lh', ⟨fun x hx => ?_, ?_, by rw [map_append]; exact e0⟩, by rw [ghp_split]; simp [ghp]⟩)
 ·refine Ct.mk' func155 rfl rfl rfl (fun g R => ?_)
  try simp only [ca]
  simp only [na]
  try refine run ?_
  refine WX.callQ rfl hfind rfl ?_
  try refine run ?_
  refine WX.callQ rfl hus rfl ?_
  try refine run ?_
  refine WX.nilH ?_
  refine WX.app rfl rfl (IsSl.nil _) htk rfl rfl (by decide) (by simp only [length_nil]; omega) rfl (fun v1 h1 hs1 => ?_)
  rw [nil_append] at hs1
  repeat' (first | refine run ?_ | refine bx rfl (fun _ => ?_) | fail)
  rename_i blk
  refine I.bs ?_
  refine WX.lit (ys := [(⟨blk⟩ : Gp)]) rfl rfl rfl rfl rfl rfl (by decide) rfl (fun v2 h2 hs2 => ?_)
  refine WX.app rfl rfl hs1 hs2.rs rfl rfl (by decide) (by simp only [length_cons, length_nil]; omega) rfl (fun v3 h3 hs3 => ?_)
  try refine run ?_
  refine I.sl ?_
  refine WX.cutFrom (lo := qs.length) rfl rfl (by omega) hcap rfl ?_
  refine WX.app rfl rfl hs3 hfr rfl rfl (by decide) (by simp only [length_append, length_cons, length_nil]; omega) rfl (fun v4 h4 hs4 => ?_)
  rw [append_nil] at hs4
  obtain ⟨p4, n4, c4, rfl⟩ := hs4.sh
  have hr4 := hs4.rs
  have hat : (gs.map Gf.gp ++ [(⟨blk⟩ : Gp)])[qs.length]? = some ⟨blk⟩ := by rw [← hgl, List.getElem?_concat_length]
  try refine run ?_
  refine W.nilH ?_
  refine W.nilH ?_
  refine W.loop (α := Nat × Int × Option Addr × Nat × Nat × Hp × Option Addr × Nat × Nat × Hp) (fun x => x.1 ≤ bs.length ∧ x.2.1 = t + (x.1 : Int) ∧ IsSl 5 (([] : List UInt8) ++ bs.take x.1) (.slice x.2.2.1 x.2.2.2.1 x.2.2.2.2.1) x.2.2.2.2.2.1 ∧ IsSl 3 (([] : List Int) ++ tms t x.1) (.slice x.2.2.2.2.2.2.1 x.2.2.2.2.2.2.2.1 x.2.2.2.2.2.2.2.2.1) x.2.2.2.2.2.2.2.2.2)
   (fun x => [(0, .pointer (some ⟨d, 0, none⟩)), (2, u), (10, .pointer (some ⟨blk, 0, none⟩)), (11, .int .i64 (x.1 : Int))])
   (fun x => [RBk d (.slice p4 n4 c4) x.2.1, GBk (blk) (n) (.slice x.2.2.1 x.2.2.2.1 x.2.2.2.2.1) (.slice x.2.2.2.2.2.2.1 x.2.2.2.2.2.2.2.1 x.2.2.2.2.2.2.2.2.1), x.2.2.2.2.2.1, x.2.2.2.2.2.2.2.2.2, hx, h4, ghp gs, R]) (fun x => bs.length - x.1) (0, t, none, 0, 0, [], none, 0, 0, []) ⟨Nat.zero_le _, by simp, IsSl.nil _, IsSl.nil _⟩ (by repeat (first | exact Fsub.nil | refine Fsub.cons rfl ?_)) (Hsub.of_picks inferInstance) ?_
  rintro ⟨i, tt, pb, lb, cb, hb, pc, lc2, cc, hc⟩ ⟨hi, htt, hsb, hsc⟩
  simp only [] at hi htt hsb hsc ⊢
  by_cases hil : i < bs.length
  ·obtain ⟨y, hy⟩ : ∃ y, bs[i]? = some y := ⟨_, List.getElem?_eq_getElem hil⟩
   have htk : bs.take (i + 1) = bs.take i ++ [y] := by rw [take_succ_eq_append_getElem hil, (List.getElem?_eq_some_iff.1 hy).2]
   have htl : (bs.take i).length ≤ bs.length := by rw [length_take]; omega
   have htm : tms t (i + 1) = tms t i ++ [tt + 1] := by rw [tms_succ, htt]
   have htn := tms_len t i
   try refine run ?_
   refine W.mix (List.replicate 9 true ++ [false, false]) [GBk (blk) (n) (.slice pb lb cb) (.slice pc lc2 cc), hx] Tryz.mix (by kernel_rfl) ?_
   try refine run ?_
   refine I.bs ?_
   refine WX.lit (ys := [y]) rfl rfl rfl rfl rfl rfl (by decide) rfl (fun v1 h1 hs1 => ?_)
   try refine run ?_
   refine WX.app rfl rfl hsb hs1.rs rfl rfl (by decide) (by simp only [length_append, length_cons, length_nil]; omega) rfl (fun v2 h2 hs2 => ?_)
   rw [append_assoc, ← htk] at hs2
   obtain ⟨p2, n2, c2, rfl⟩ := hs2.sh
   try refine run ?_
   refine W.mix (List.replicate 9 true ++ [false, false]) [GBk (blk) (n) (.slice p2 n2 c2) (.slice pc lc2 cc), RBk d (.slice p4 n4 c4) (tt + 1)] Tryz.mix (by kernel_rfl) ?_
   try refine run ?_
   refine I.bs ?_
   refine WX.lit (ys := [tt + 1]) rfl rfl rfl rfl rfl rfl (by decide) rfl (fun v3 h3 hs3 => ?_)
   try refine run ?_
   refine WX.app rfl rfl hsc hs3.rs rfl rfl (by decide) (by simp only [length_append, length_cons, length_nil]; omega) rfl (fun v4 h4 hs4 => ?_)
   rw [append_assoc, ← htm] at hs4
   obtain ⟨p4, n4, c4, rfl⟩ := hs4.sh
   try refine run ?_
   exact D.rd (i + 1, tt + 1, p2, n2, c2, h2, p4, n4, c4, h4) ⟨by simp only []; omega, by simp only []; omega, hs2, hs4⟩ (by simp only []; omega)
  ·obtain rfl : i = bs.length := by omega
   rw [take_length] at hsb
   subst htt
   try refine run ?_
   rw [nil_append] at hsb hsc
   exact D.fin1 [RBk d (.slice p4 n4 c4) (t + bs.length), h4, ghp gs, GBk blk n (.slice pb lb cb) (.slice pc lc2 cc), hb, hc, hx] _ rfl rfl ⟨_, _, _, _, _, _, _, _, _, _, _, rfl, rfl, hs4, hsb, hsc⟩
 ·rcases mem_append.1 hx with hx | hx
  ·exact hd.ok x hx
  ·rw [mem_singleton.1 hx]
   exact ⟨e3, e4, tms_len _ _⟩
 ·rw [map_append, map_append, hd.fs]
  rfl
theorem rappend_far {qs : List RfQ} {t : Int} {d : Nat} {h hx : Hp} {n : Int} (hn1 : 1099511627776 < n) {u : Value} :
  Ct prog 155 [.pointer (some ⟨d, 0, none⟩), .int .i64 n, u] [h, hx] (fun r H' => r = .int .i64 50 ∧ H' = [h, hx]) := by
 refine Ct.mk' func155 rfl rfl rfl (fun g R => ?_)
 try simp only [ca]
 simp only [na]
 try refine run ?_
 exact D.fin1 [h, hx] _ rfl rfl ⟨rfl, rfl⟩
theorem rappend_full {qs : List RfQ} (ok : QOk qs) {t : Int} {d : Nat} {h hx : Hp} (hd : IsRk (qs.map RfQ.pl) t d h) {n : Int} (hlt : ∀ q ∈ qs, q.n < n) (hn0 : 0 ≤ n) (hn1 : n ≤ 1099511627776)
  {bs : List UInt8} {u : Value} (hb : Rs bs u hx) (hbl : bs.length ≤ 1099511627776) (hul : 64 ≤ qs.length ∨ 1048576 < used7 qs + bs.length) :
  Ct prog 155 [.pointer (some ⟨d, 0, none⟩), .int .i64 n, u] [h, hx] (fun r H' => r = .int .i64 51 ∧ H' = [h, hx]) := by
 have hll := ok.len
 have hu0 : used7 qs ≤ 1048576 := ok.used
 obtain ⟨lv, gs, lh, hd, rfl⟩ := hd
 have hgl : (gs.map Gf.gp).length = qs.length := hd.len.trans (length_map _)
 have hpl : (qs.map RfQ.pl).length = qs.length := length_map _
 have hus := rused_q (d := d) (t := t) ok hd
 have hr := hd.sl.rs
 have hfind := rfind_end (d := d) (t := t) hd (n := n) (fun y hy => by obtain ⟨q, hq, rfl⟩ := mem_map.1 hy; exact hlt q hq) (by omega)
 unfold rfPost at hfind
 rw [hpl] at hfind
 obtain ⟨lp, lc, rfl⟩ := hr.len
 refine Ct.pack (pre := [RBk d (.slice lp (gs.map Gf.gp).length lc) t, lh, ghp gs, hx]) (post := fun r H' => r = .int .i64 51 ∧ H' = [RBk d (.slice lp (gs.map Gf.gp).length lc) t, lh, ghp gs, hx]) ?_ (by simp) (fun r H' ⟨e1, e2⟩ => ⟨[RBk d (.slice lp (gs.map Gf.gp).length lc) t ++ (lh ++ ghp gs), hx], by rw [e2]; simp, e1, rfl⟩)
 refine Ct.mk' func155 rfl rfl rfl (fun g R => ?_)
 try simp only [ca]
 simp only [na]
 try refine run ?_
 refine WX.callQ rfl hfind rfl ?_
 by_cases h64 : 64 ≤ qs.length
 ·try refine run ?_
  exact D.fin1 [RBk d (.slice lp (gs.map Gf.gp).length lc) t, lh, ghp gs, hx] _ rfl rfl ⟨rfl, rfl⟩
 ·try refine run ?_
  refine WX.callQ rfl hus rfl ?_
  try refine run ?_
  exact D.fin1 [RBk d (.slice lp (gs.map Gf.gp).length lc) t, lh, ghp gs, hx] _ rfl rfl ⟨rfl, rfl⟩
theorem rappend_more {qs : List RfQ} (ok : QOk qs) {t : Int} {d : Nat} {h hx : Hp} (hd : IsRk (qs.map RfQ.pl) t d h) {k : Nat} {q : RfQ} (hq : qs[k]? = some q) (hn0 : 0 ≤ q.n) (hn1 : q.n ≤ 1099511627776)
  {bs : List UInt8} {u : Value} (hb : Rs bs u hx) (hbl : bs.length ≤ 1099511627776) (hul : 1048576 < used7 qs + bs.length) :
  Ct prog 155 [.pointer (some ⟨d, 0, none⟩), .int .i64 q.n, u] [h, hx] (fun r H' => r = .int .i64 51 ∧ H' = [h, hx]) := by
 have hll := ok.len
 have hu0 : used7 qs ≤ 1048576 := ok.used
 obtain ⟨lv, gs, lh, hd, rfl⟩ := hd
 obtain ⟨a, y0, b, e1, e, hal⟩ := hd.nthL (q_nth hq)
 have hpl : (qs.map RfQ.pl).length = qs.length := length_map _
 have hus := rused_q (d := d) (t := t) ok hd
 have hr := hd.sl.rs
 have hn : y0.n = q.n := congrArg RfP.n e
 have hd' : Rk3 (qs.map RfQ.pl) lv (a ++ y0 :: b) lh := by rw [← e1]; exact hd
 have hfind := rfind_at (d := d) (t := t) hd' hd'.split (hd'.lt ok.srt) (by omega)
 unfold rfPost at hfind
 rw [← e1] at hfind
 obtain ⟨lp, lc, rfl⟩ := hr.len
 rw [← hn] at hn0 hn1 ⊢
 refine Ct.pack (pre := [RBk d (.slice lp (gs.map Gf.gp).length lc) t, lh, ghp gs, hx]) (post := fun r H' => r = .int .i64 51 ∧ H' = [RBk d (.slice lp (gs.map Gf.gp).length lc) t, lh, ghp gs, hx]) ?_ (by simp) (fun r H' ⟨e1, e2⟩ => ⟨[RBk d (.slice lp (gs.map Gf.gp).length lc) t ++ (lh ++ ghp gs), hx], by rw [e2]; simp, e1, rfl⟩)
 refine Ct.mk' func155 rfl rfl rfl (fun g R => ?_)
 try simp only [ca]
 simp only [na]
 try refine run ?_
 refine WX.callQ rfl hfind rfl ?_
 try refine run ?_
 refine WX.callQ rfl hus rfl ?_
 try refine run ?_
 exact D.fin1 [RBk d (.slice lp (gs.map Gf.gp).length lc) t, lh, ghp gs, hx] _ rfl rfl ⟨rfl, rfl⟩
def cnt (l : List Int) (m : Int) : Nat := (l.filter fun x => decide (x ≤ m)).length
theorem cnt_snoc (l : List Int) (x m : Int) : cnt (l ++ [x]) m = cnt l m + if x ≤ m then 1 else 0 := by
 unfold cnt
 rw [filter_append, length_append]
 congr 1
 by_cases h : x ≤ m
 ·rw [if_pos h, filter_cons_of_pos (by simpa using h)]; rfl
 ·rw [if_neg h, filter_cons_of_neg (by simpa using h)]; rfl
theorem cnt_le (l : List Int) (m : Int) : cnt l m ≤ l.length := length_filter_le _ _
theorem cnt_all {l : List Int} {m : Int} (h : ∀ x ∈ l, x ≤ m) : cnt l m = l.length := by
 unfold cnt
 rw [filter_eq_self.2 (fun x hx => by simpa using h x hx)]
theorem cnt_none {l : List Int} {m : Int} (h : ∀ x ∈ l, m < x) : cnt l m = 0 := by
 unfold cnt
 rw [length_eq_zero_iff, filter_eq_nil_iff]
 intro x hx
 have := h x hx
 simpa using this
theorem max_at {l : List Int} {i : Nat} {y : Int} (h : l[i]? = some y) {m : Int} (hm : ∀ x ∈ l.take i, x ≤ m) : ∀ x ∈ l.take (i + 1), x ≤ max m y := by
 intro x hx
 rw [take_succ_eq_append_getElem (List.getElem?_eq_some_iff.1 h).1, (List.getElem?_eq_some_iff.1 h).2] at hx
 rcases mem_append.1 hx with hx | hx
 ·have := hm x hx; omega
 ·rw [mem_singleton.1 hx]; omega
set_option maxHeartbeats 2000000 in
theorem nth_ct {l : List Int} {v : Value} {h : Hp} (hr : Rs l v h) (hl : l.length ≤ 1099511627776) (hp : ∀ x ∈ l, 0 < x ∧ x ≤ 2199023255552) {keep : Nat} (hk : keep < l.length) :
  Ct prog 172 [v, .int .i64 (keep : Int)] [h] (fun r H' => ∃ m : Int, r = .int .i64 m ∧ H' = [h] ∧ 0 ≤ m ∧ cnt l m ≤ keep ∧ keep < cnt l (m + 1)) := by
 refine Ct.mk' func172 rfl rfl rfl (fun g R => ?_)
 try simp only [ca]
 simp only [na]
 try refine run ?_
 refine W.loop (α := Nat × Nat) (fun x => x.1 ≤ l.length ∧ 1 ≤ x.2 ∧ x.2 ≤ 2199023255552 ∧ ∀ y ∈ l.take x.1, y ≤ (x.2 : Int)) (fun x => [(0, v), (1, .int .i64 (keep : Int)), (5, .int .i64 0), (6, .int .i64 (x.2 : Int)), (7, .int .i64 (x.1 : Int))]) (fun _ => [h, R]) (fun x => l.length - x.1) (0, 1) ⟨Nat.zero_le _, Nat.le_refl _, by decide, by simp⟩ (by repeat (first | exact Fsub.nil | refine Fsub.cons rfl ?_)) (Hsub.of_picks inferInstance) ?_
 rintro ⟨i, hi⟩ ⟨h1, h2, h3, h4⟩
 simp only [] at h1 h2 h3 h4 ⊢
 by_cases hil : i < l.length
 ·obtain ⟨y, hy⟩ : ∃ y, l[i]? = some y := ⟨_, List.getElem?_eq_getElem hil⟩
  have hyp := hp y (mem_of_getElem? hy)
  have hmx := max_at hy h4
  try refine run ?_
  refine D.as 6 (.int .i64 ((max hi y.toNat : Nat) : Int)) rfl (by congr 1; split <;> omega) ?_
  exact D.rd (i + 1, max hi y.toNat) ⟨by simp only []; omega, by simp only []; omega, by simp only []; omega, fun x hx => by have := hmx x hx; simp only []; omega⟩ (by simp only []; omega)
 ·obtain rfl : i = l.length := by omega
  rw [take_length] at h4
  try refine run ?_
  refine W.loop (α := Nat × Nat) (fun x => x.1 ≤ x.2 ∧ x.2 ≤ 2199023255552 ∧ cnt l (x.1 : Int) ≤ keep ∧ keep < cnt l ((x.2 : Int) + 1)) (fun x => [(0, v), (1, .int .i64 (keep : Int)), (5, .int .i64 (x.1 : Int)), (6, .int .i64 (x.2 : Int))]) (fun _ => [h, R]) (fun x => x.2 - x.1) (0, hi)
   ⟨Nat.zero_le _, h3, by simp only []; rw [cnt_none (fun x hx => by have := hp x hx; simp only [Int.natCast_zero]; omega)]; omega, by simp only []; rw [cnt_all (fun x hx => by have := h4 x hx; omega)]; exact hk⟩ (by repeat (first | exact Fsub.nil | refine Fsub.cons rfl ?_)) (Hsub.of_picks inferInstance) ?_
  rintro ⟨lo, hj⟩ ⟨g1, g2, g3, g4⟩
  simp only [] at g1 g2 g3 g4 ⊢
  by_cases hlt : lo < hj
  ·repeat' (first | refine run ?_ | refine WX.quoN (a := lo + hj + 1) (b := 2) rfl rfl (by omega) rfl (by decide) (by omega) rfl ?_ | fail)
   generalize hm : (lo + hj + 1) / 2 = m
   have hm1 : lo < m ∧ m ≤ hj := by omega
   refine W.loop (α := Nat) (fun i => i ≤ l.length) (fun i => [(0, v), (1, .int .i64 (keep : Int)), (5, .int .i64 (lo : Int)), (6, .int .i64 (hj : Int)), (8, .int .i64 (m : Int)), (9, .int .i64 (cnt (l.take i) (m : Int) : Int)), (10, .int .i64 (i : Int))]) (fun _ => [h, R]) (fun i => l.length - i) 0 (Nat.zero_le _) (by repeat (first | exact Fsub.nil | refine Fsub.cons rfl ?_)) (Hsub.of_picks inferInstance) ?_
   intro i h5
   have hcl := cnt_le (l.take i) (m : Int)
   rw [length_take] at hcl
   by_cases hil : i < l.length
   ·obtain ⟨y, hy⟩ : ∃ y, l[i]? = some y := ⟨_, List.getElem?_eq_getElem hil⟩
    have hsn : cnt (l.take (i + 1)) (m : Int) = cnt (l.take i) (m : Int) + if y ≤ (m : Int) then 1 else 0 := by
     rw [take_succ_eq_append_getElem hil, (List.getElem?_eq_some_iff.1 hy).2, cnt_snoc]
    by_cases hym : y ≤ (m : Int)
    ·rw [if_pos hym] at hsn
     try refine run ?_
     refine D.as 9 (.int .i64 (cnt (l.take (i + 1)) (m : Int) : Int)) rfl (by rw [hsn]; rfl) ?_
     exact D.rd (i + 1) (by omega) (by omega)
    ·rw [if_neg hym] at hsn
     try refine run ?_
     refine D.as 9 (.int .i64 (cnt (l.take (i + 1)) (m : Int) : Int)) rfl (by rw [hsn]; rfl) ?_
     exact D.rd (i + 1) (by omega) (by omega)
   ·obtain rfl : i = l.length := by omega
    rw [take_length] at hcl ⊢
    by_cases hc : cnt l (m : Int) ≤ keep
    ·try refine run ?_
     exact D.rd (m, hj) ⟨by simp only []; omega, g2, hc, g4⟩ (by simp only []; omega)
    ·try refine run ?_
     refine D.as 6 (.int .i64 ((m - 1 : Nat) : Int)) rfl (by congr 1; omega) ?_
     exact D.rd (lo, m - 1) ⟨by simp only []; omega, by simp only []; omega, g3, by simp only []; rw [show (((m - 1 : Nat) : Int) + 1) = (m : Int) by omega]; omega⟩ (by simp only []; omega)
  ·obtain rfl : lo = hj := by omega
   try refine run ?_
   exact D.fin1 [h] _ rfl rfl ⟨_, rfl, rfl, Int.natCast_nonneg _, g3, g4⟩
end Go.Proofs.YtejfahjgfedliaaGreat

namespace Go.Proofs.YtejfahjgfedliaaGreat
open Go Go.Sl List
def RfQ.tw (q : RfQ) (last : Int) : Nat := (q.ts.takeWhile fun x => decide (x ≤ last)).length
def RfQ.kp (q : RfQ) (last : Int) : Nat := q.s + q.tw last
def RfQ.crash (q : RfQ) (last : Int) : RfQ := q.cut (q.kp last)
theorem tw_le (l : List Int) (m : Int) : (l.takeWhile fun x => decide (x ≤ m)).length ≤ l.length := (takeWhile_sublist _).length_le
theorem tw_get {m : Int} : ∀ {l : List Int} {j : Nat} {x : Int}, l[j]? = some x → (j < (l.takeWhile fun x => decide (x ≤ m)).length → x ≤ m) ∧ (j = (l.takeWhile fun x => decide (x ≤ m)).length → m < x)
 | [], j, x, h => by simp at h
 | y :: t, j, x, h => by
  by_cases hy : y ≤ m
  ·rw [takeWhile_cons_of_pos (by simpa using hy), length_cons]
   cases j with
   | zero => cases h; exact ⟨fun _ => hy, fun e => by omega⟩
   | succ j =>
    obtain ⟨h1, h2⟩ := tw_get (m := m) (l := t) (j := j) (x := x) (by simpa using h)
    exact ⟨fun e => h1 (by omega), fun e => h2 (by omega)⟩
  ·rw [takeWhile_cons_of_neg (by simpa using hy), length_nil]
   cases j with
   | zero => cases h; exact ⟨fun e => by omega, fun _ => by omega⟩
   | succ j => exact ⟨fun e => by omega, fun e => by omega⟩
theorem RfQ.kp_le {q : RfQ} (h : q.Ok) (last : Int) : q.kp last ≤ q.b.length := by
 have h1 := h.e
 have h2 := tw_le q.ts last
 unfold RfQ.kp RfQ.tw
 omega
theorem RfQ.at {q : RfQ} (h : q.Ok) {last : Int} (h0 : 0 ≤ last) {j : Nat} {x : Int} (hx : (List.replicate q.s (0 : Int) ++ q.ts)[j]? = some x) : (j < q.kp last → x ≤ last) ∧ (j = q.kp last → last < x) := by
 unfold RfQ.kp RfQ.tw
 rcases Nat.lt_or_ge j q.s with hj | hj
 ·rw [List.getElem?_append_left (by simpa using hj)] at hx
  have : x = 0 := by
   have := mem_of_getElem? hx
   rw [mem_replicate] at this
   exact this.2
  exact ⟨fun _ => by omega, fun e => by omega⟩
 ·rw [List.getElem?_append_right (by simpa using hj), length_replicate] at hx
  obtain ⟨h1, h2⟩ := tw_get (m := last) hx
  exact ⟨fun e => h1 (by omega), fun e => h2 (by omega)⟩
def allT (qs : List RfQ) : List Int := (qs.map RfQ.ts).flatten
def crS (qs : List RfQ) (last : Int) (i : Nat) : List RfQ := (qs.take i).map (fun q => q.crash last) ++ qs.drop i
theorem crS_at {qs : List RfQ} {last : Int} {i : Nat} {q : RfQ} (h : qs[i]? = some q) : (crS qs last i)[i]? = some q ∧ (crS qs last i).set i (q.crash last) = crS qs last (i + 1) := by
 obtain ⟨h1, h2⟩ := List.getElem?_eq_some_iff.1 h
 have hl : ((qs.take i).map (fun q => q.crash last)).length = i := by rw [length_map, length_take]; omega
 unfold crS
 have hd : qs.drop i = q :: qs.drop (i + 1) := by rw [drop_eq_getElem_cons h1, h2]
 constructor
 ·rw [List.getElem?_append_right (by omega), hl, Nat.sub_self, hd]; rfl
 ·rw [set_append_right _ _ (by omega), hl, Nat.sub_self, hd, set_cons_zero, take_succ_eq_append_getElem h1, h2, map_append, append_assoc]; rfl
theorem crS_len {qs : List RfQ} {last : Int} {i : Nat} (h : i ≤ qs.length) : (crS qs last i).length = qs.length := by
 unfold crS; rw [length_append, length_map, length_take, length_drop]; omega
def lostS (qs : List RfQ) (last : Int) : Nat := (qs.map fun q => q.b.length - q.kp last).sum
def LastOk (qs : List RfQ) (t : Int) (keep : Nat) (last : Int) : Prop :=
 0 ≤ last ∧ ((allT qs).length ≤ keep → last = t) ∧ (keep < (allT qs).length → cnt (allT qs) last ≤ keep ∧ keep < cnt (allT qs) (last + 1))
theorem allT_le {qs : List RfQ} (ok : QOk qs) : (allT qs).length ≤ 1048576 := by
 have h1 : ∀ l : List RfQ, (∀ q ∈ l, q.Ok) → (allT l).length ≤ (l.map fun q => q.b.length).sum := by
  intro l
  induction l with
  | nil => intro _; exact Nat.le_refl _
  | cons x r ih =>
   intro hx
   have h2 := (hx x (mem_cons_self ..)).e
   have h3 := ih fun y hy => hx y (mem_cons_of_mem _ hy)
   unfold allT at h3 ⊢
   simp only [map_cons, flatten_cons, length_append, sum_cons]; omega
 have := h1 qs ok.ok
 have := ok.used
 omega
theorem sum_take_le {α : Type} (f : α → Nat) (l : List α) (k : Nat) : ((l.take k).map f).sum ≤ (l.map f).sum := by
 conv => rhs; rw [← take_append_drop k l]
 rw [map_append, sum_append]; omega
theorem sum_map_le {α : Type} (f f' : α → Nat) : ∀ (l : List α), (∀ x ∈ l, f x ≤ f' x) → (l.map f).sum ≤ (l.map f').sum
 | [], _ => Nat.le_refl _
 | x :: t, h => by
  have h1 := h x (mem_cons_self ..)
  have h2 := sum_map_le f f' t fun y hy => h y (mem_cons_of_mem _ hy)
  simp only [map_cons, sum_cons]; omega
end Go.Proofs.YtejfahjgfedliaaGreat

namespace Go.Proofs.YtejfahjgfedliaaGreat
open Go Go.Sl Go.Proofs.Tryz List
set_option maxHeartbeats 4000000 in
theorem rcrash_ct {qs : List RfQ} (ok : QOk qs) {t : Int} (ht0 : 0 ≤ t) (ht1 : t ≤ 1099511627776) (hT : ∀ x ∈ allT qs, x ≤ t) {d : Nat} {h : Hp} (hd : IsRk (qs.map RfQ.pl) t d h) {keep : Int} (hk1 : -9223372036854775808 ≤ keep) (hk2 : keep ≤ 9223372036854775807) :
  Ct prog 114 [.pointer (some ⟨d, 0, none⟩), .int .i64 keep] [h] (fun r H' => ∃ (last : Int) (h' : Hp), r = .int .i64 (lostS qs last : Int) ∧ H' = [h'] ∧ IsRk ((qs.map fun q => q.crash last).map RfQ.pl) t d h' ∧ LastOk qs t keep.toNat last) := by
 have hll := ok.len
 have haT := allT_le ok
 obtain ⟨lv, gs, lh, hd, rfl⟩ := hd
 have hr := hd.sl.rs
 have hgl : (gs.map Gf.gp).length = qs.length := hd.len.trans (length_map _)
 obtain ⟨lp, lc, rfl⟩ := hr.len
 refine Ct.pack (pre := [RBk d (.slice lp (gs.map Gf.gp).length lc) t, lh, ghp gs]) (post := fun r H' => ∃ (last : Int) (gs' : List Gf), r = .int .i64 (lostS qs last : Int) ∧ H' = [RBk d (.slice lp (gs.map Gf.gp).length lc) t, lh, ghp gs'] ∧ Rk3 ((qs.map fun q => q.crash last).map RfQ.pl) (.slice lp (gs.map Gf.gp).length lc) gs' lh ∧ LastOk qs t keep.toNat last) ?_ (by simp)
  (fun r H' ⟨last, gs', e1, e2, e3, e4⟩ => ⟨[[RBk d (.slice lp (gs.map Gf.gp).length lc) t, lh, ghp gs'].flatten], by rw [e2]; simp, last, _, e1, rfl, ⟨_, gs', lh, e3, by simp⟩, e4⟩)
 refine Ct.mk' func114 rfl rfl rfl (fun g R => ?_)
 try simp only [ca]
 simp only [na]
 try refine run ?_
 refine W.as 1 (.int .i64 (keep.toNat : Int)) rfl (by congr 1; split <;> omega) ?_
 refine W.nilH ?_
 refine W.loop (α := Nat × Value × Hp) (fun x => x.1 ≤ qs.length ∧ IsSl 3 (allT (qs.take x.1)) x.2.1 x.2.2) (fun x => [(0, .pointer (some ⟨d, 0, none⟩)), (1, .int .i64 (keep.toNat : Int)), (5, x.2.1), (6, .int .i64 (x.1 : Int))])
  (fun x => [x.2.2, RBk d (.slice lp (gs.map Gf.gp).length lc) t, lh, ghp gs, R]) (fun x => qs.length - x.1) (0, .slice none 0 0, []) ⟨Nat.zero_le _, IsSl.nil _⟩ (by repeat (first | exact Fsub.nil | refine Fsub.cons rfl ?_)) (Hsub.of_picks inferInstance) ?_
 rintro ⟨i, u, hu⟩ ⟨hi, hsu⟩
 simp only [] at hi hsu ⊢
 by_cases hil : i < qs.length
 ·obtain ⟨q, hq⟩ : ∃ q, qs[i]? = some q := ⟨_, List.getElem?_eq_getElem hil⟩
  obtain ⟨a', g', b', e1', e3', hok', hat'⟩ := hd.nth (q_nth hq)
  have hqm := mem_of_getElem? hq
  have hqo := ok.ok q hqm
  have hqe := hqo.e
  have hbl := ok.bl hqm
  have hcml := RfQ.cml hqo
  have hrb := hok'.b.rs
  have hrc := hok'.c.rs
  have hgb : g'.b = q.b := congrArg RfP.b e3'
  have hgc : g'.cm = List.replicate q.s 0 ++ q.ts := congrArg RfP.cm e3'
  have hgbl : g'.b.length = q.b.length := by rw [hgb]
  have hgcl : g'.cm.length = q.b.length := by rw [hgc]; exact hcml
  have hd' : Rk3 (qs.map RfQ.pl) (.slice lp (gs.map Gf.gp).length lc) (a' ++ g' :: b') lh := by rw [← e1']; exact hd
  have hcall := rsynced_s (d := d) (t := t) hd' ok.srt (by rw [length_map]; omega) hgc hqo.p (by omega)
  have hTn : allT (qs.take (i + 1)) = allT (qs.take i) ++ q.ts := by
   unfold allT
   rw [take_succ_eq_append_getElem hil, (List.getElem?_eq_some_iff.1 hq).2, map_append, flatten_append]; simp
  have hTl : (allT (qs.take i)).length ≤ 1048576 := by
   refine Nat.le_trans ?_ haT
   unfold allT
   conv => rhs; rw [← take_append_drop i qs]
   rw [map_append, flatten_append, length_append]; omega
  refine W.flat (H' := [hu, RBk d (.slice lp (gs.map Gf.gp).length lc) t, lh, ghp a', g'.bk, g'.hb, g'.hc, ghp b', R]) (by rw [e1', ghp_split]; simp) ?_
  try refine run ?_
  refine WX.callQ rfl hcall rfl ?_
  try refine run ?_
  refine W.loop (α := Nat × Value × Hp) (fun x => x.1 ≤ q.ts.length ∧ IsSl 3 (allT (qs.take i) ++ q.ts.take x.1) x.2.1 x.2.2) (fun x => [(0, .pointer (some ⟨d, 0, none⟩)), (1, .int .i64 (keep.toNat : Int)), (5, x.2.1), (6, .int .i64 (i : Int)), (7, .int .i64 ((q.s + x.1 : Nat) : Int))])
   (fun x => [x.2.2, RBk d (.slice lp (gs.map Gf.gp).length lc) t, lh, ghp a', g'.bk, g'.hb, g'.hc, ghp b', R]) (fun x => q.ts.length - x.1) (0, u, hu) ⟨Nat.zero_le _, by simpa using hsu⟩ (by repeat (first | exact Fsub.nil | refine Fsub.cons rfl ?_)) (Hsub.of_picks inferInstance) ?_
  rintro ⟨j, w, hw⟩ ⟨hj, hsw⟩
  simp only [] at hj hsw ⊢
  by_cases hjl : j < q.ts.length
  ·obtain ⟨x, hx⟩ : ∃ x, q.ts[j]? = some x := ⟨_, List.getElem?_eq_getElem hjl⟩
   have hxc : g'.cm[q.s + j]? = some x := by rw [hgc, List.getElem?_append_right (by simp)]; simpa using hx
   have hxn : q.ts.take (j + 1) = q.ts.take j ++ [x] := by rw [take_succ_eq_append_getElem hjl, (List.getElem?_eq_some_iff.1 hx).2]
   try refine run ?_
   refine I.bs ?_
   refine WX.lit (ys := [x]) rfl rfl rfl rfl rfl rfl (by decide) rfl (fun v1 h1 hs1 => ?_)
   refine WX.app rfl rfl hsw hs1.rs rfl rfl (by decide) (by simp only [length_append, length_take, length_cons, length_nil]; omega) rfl (fun v2 h2 hs2 => ?_)
   rw [append_assoc, ← hxn] at hs2
   try refine run ?_
   exact D.rd (j + 1, v2, h2) ⟨by simp only []; omega, hs2⟩ (by simp only []; omega)
  ·obtain rfl : j = q.ts.length := by omega
   rw [take_length, ← hTn] at hsw
   try refine run ?_
   refine D.flat (H' := [hw, RBk d (.slice lp (gs.map Gf.gp).length lc) t, lh, ghp gs, R]) (by rw [e1', ghp_split]; simp) ?_
   exact D.rd (i + 1, w, hw) ⟨by simp only []; omega, hsw⟩ (by simp only []; omega)
 ·obtain rfl : i = qs.length := by omega
  rw [take_length] at hsu
  have hru := hsu.rs
  have hpT : ∀ x ∈ allT qs, 0 < x ∧ x ≤ 2199023255552 := fun x hx => by
   refine ⟨?_, by have := hT x hx; omega⟩
   unfold allT at hx
   obtain ⟨l, hl, hxl⟩ := mem_flatten.1 hx
   obtain ⟨q, hq, rfl⟩ := mem_map.1 hl
   exact (ok.ok q hq).p x hxl
  by_cases hkT : keep.toNat < (allT qs).length
  ·try refine run ?_
   refine WX.call rfl (nth_ct hru (by omega) hpT hkT) rfl ?_
   rintro _ _ ⟨last, rfl, rfl, hl0, hl1, hl2⟩
   have hlast : LastOk qs t keep.toNat last := ⟨hl0, fun h => by omega, fun _ => ⟨hl1, hl2⟩⟩
   simp only [ca, na]
   try refine run ?_
   refine W.loop (α := Nat × List Gf) (fun x => x.1 ≤ qs.length ∧ Rk3 ((crS qs last x.1).map RfQ.pl) (.slice lp (gs.map Gf.gp).length lc) x.2 lh)
    (fun x => [(0, .pointer (some ⟨d, 0, none⟩)), (8, .int .i64 last), (9, .int .i64 ((((qs.take x.1).map fun q => q.b.length - q.kp last).sum : Nat) : Int)), (10, .int .i64 (x.1 : Int))])
    (fun x => [RBk d (.slice lp (gs.map Gf.gp).length lc) t, lh, ghp x.2, R]) (fun x => qs.length - x.1) (0, gs) ⟨Nat.zero_le _, hd⟩ (by repeat (first | exact Fsub.nil | refine Fsub.cons rfl ?_)) (Hsub.of_picks inferInstance) ?_
   rintro ⟨i, gs'⟩ ⟨hi, hdi⟩
   simp only [] at hi hdi ⊢
   have hri := hdi.sl.rs
   have hgli : (gs'.map Gf.gp).length = qs.length := hdi.len.trans ((length_map _).trans (crS_len hi))
   have hsul := sum_take_le (fun q : RfQ => q.b.length - q.kp last) qs i
   have hsut : (qs.map fun q => q.b.length - q.kp last).sum ≤ 1048576 := by
    refine Nat.le_trans ?_ ok.used
    exact sum_map_le _ _ _ fun q _ => Nat.sub_le _ _
   by_cases hil : i < qs.length
   ·obtain ⟨q, hq⟩ : ∃ q, qs[i]? = some q := ⟨_, List.getElem?_eq_getElem hil⟩
    obtain ⟨hat0, hset⟩ := crS_at (last := last) hq
    obtain ⟨a, y0, b, rfl, e, hal⟩ := hdi.nthL (q_nth hat0)
    obtain ⟨hok, hatm⟩ := hdi.me
    rw [hal] at hatm
    have hqm := mem_of_getElem? hq
    have hqo := ok.ok q hqm
    have hbl := ok.bl hqm
    have hcml := RfQ.cml hqo
    have hkp := RfQ.kp_le hqo last
    have hrb := hok.b.rs
    have hbb : y0.b = q.b := congrArg RfP.b e
    have hnn : y0.n = q.n := congrArg RfP.n e
    have hbbl : y0.b.length = q.b.length := by rw [hbb]
    have hcm : y0.cm = List.replicate q.s (0 : Int) ++ q.ts := congrArg RfP.cm e
    have hcml2 : y0.cm.length = q.b.length := by rw [hcm]; exact hcml
    have hsn : ((qs.take (i + 1)).map fun q => q.b.length - q.kp last).sum = ((qs.take i).map fun q => q.b.length - q.kp last).sum + (q.b.length - q.kp last) := by
     rw [take_succ_eq_append_getElem hil, (List.getElem?_eq_some_iff.1 hq).2]; simp
    refine W.flat (H' := [RBk d (.slice lp (gs.map Gf.gp).length lc) t, lh, ghp a, y0.bk, y0.hb, y0.hc, ghp b, R]) (by rw [ghp_split]; simp) ?_
    try refine run ?_
    refine W.loop (α := Nat × Hp) (fun x => x.1 ≤ q.kp last ∧ IsSl 3 (List.replicate x.1 (0 : Int) ++ y0.cm.drop x.1) (.slice y0.pc y0.lc y0.cc) x.2)
     (fun x => [(0, .pointer (some ⟨d, 0, none⟩)), (8, .int .i64 last), (9, .int .i64 ((((qs.take i).map fun q => q.b.length - q.kp last).sum : Nat) : Int)), (10, .int .i64 (i : Int)), (11, .pointer (some ⟨y0.blk, 0, none⟩)), (12, .int .i64 (x.1 : Int))])
     (fun x => [RBk d (.slice lp (gs.map Gf.gp).length lc) t, lh, ghp a, y0.bk, y0.hb, x.2, ghp b, R]) (fun x => q.kp last + 1 - x.1) (0, y0.hc) ⟨Nat.zero_le _, by simpa using hok.c⟩ (by repeat (first | exact Fsub.nil | refine Fsub.cons rfl ?_)) (Hsub.of_picks inferInstance) ?_
    rintro ⟨n, hc'⟩ ⟨hn, hsc⟩
    simp only [] at hn hsc ⊢
    have hrc := hsc.rs
    have hln : (List.replicate n (0 : Int) ++ y0.cm.drop n).length = y0.cm.length := by rw [length_append, length_replicate, length_drop]; omega
    have hcx : ∀ x, (List.replicate n (0 : Int) ++ y0.cm.drop n)[n]? = some x → (List.replicate q.s (0 : Int) ++ q.ts)[n]? = some x := fun x hx => by
     rw [List.getElem?_append_right (by simp), length_replicate, Nat.sub_self, List.getElem?_drop, Nat.add_zero, hcm] at hx
     exact hx
    by_cases hnk : n < q.kp last
    ·obtain ⟨x, hx⟩ : ∃ x, (List.replicate n (0 : Int) ++ y0.cm.drop n)[n]? = some x := ⟨_, List.getElem?_eq_getElem (by omega)⟩
     have hxl := (RfQ.at hqo hlast.1 (hcx x hx)).1 hnk
     have hst := rep_step (cm := y0.cm) (k := n) (by omega)
     try refine run ?_
     refine I.st ?_
     refine WX.storeE (y' := (0 : Int)) (vs := [.int .i64 0]) rfl rfl rfl hsc hx rfl rfl rfl rfl rfl (fun h2 hs2 => ?_)
     rw [hst] at hs2
     try refine run ?_
     exact D.rd (n + 1, h2) ⟨by simp only []; omega, hs2⟩ (by simp only []; omega)
    ·obtain rfl : n = q.kp last := by omega
     have hb2 := hok.b.to (m := q.kp last) (by omega)
     have hc2 := hsc.to (m := q.kp last) (by omega)
     rw [take_left' (by simp)] at hc2
     have hnew := hdi.put (y1 := ⟨y0.n, y0.b.take (q.kp last), List.replicate (q.kp last) 0, y0.blk, y0.pb, q.kp last, y0.cb, y0.hb, y0.pc, q.kp last, y0.cc, hc'⟩) rfl ⟨hb2, hc2, by simp only [length_replicate, length_take]; omega⟩
     rw [q_split hat0 hdi.split.symm hal (q1 := q.crash last) (by unfold Gf.pl RfQ.pl RfQ.crash RfQ.cut; simp [hnn, hbb]), hset] at hnew
     by_cases hnb : q.kp last < q.b.length
     ·obtain ⟨x, hx⟩ : ∃ x, (List.replicate (q.kp last) (0 : Int) ++ y0.cm.drop (q.kp last))[q.kp last]? = some x := ⟨_, List.getElem?_eq_getElem (by omega)⟩
      have hxl := (RfQ.at hqo hlast.1 (hcx x hx)).2 rfl
      try refine run ?_
      refine D.as 9 (.int .i64 ((((qs.take (i + 1)).map fun q => q.b.length - q.kp last).sum : Nat) : Int)) rfl (by rw [hsn]; congr 1; omega) ?_
      refine D.flat (H' := [RBk d (.slice lp (gs.map Gf.gp).length lc) t, lh, ghp (a ++ ⟨y0.n, y0.b.take (q.kp last), List.replicate (q.kp last) 0, y0.blk, y0.pb, q.kp last, y0.cb, y0.hb, y0.pc, q.kp last, y0.cc, hc'⟩ :: b), R]) (by rw [ghp_split]; simp [slTo]) ?_
      exact D.rd (i + 1, a ++ ⟨y0.n, y0.b.take (q.kp last), List.replicate (q.kp last) 0, y0.blk, y0.pb, q.kp last, y0.cb, y0.hb, y0.pc, q.kp last, y0.cc, hc'⟩ :: b) ⟨by simp only []; omega, hnew⟩ (by simp only []; omega)
     ·skip
      try refine run ?_
      refine D.as 9 (.int .i64 ((((qs.take (i + 1)).map fun q => q.b.length - q.kp last).sum : Nat) : Int)) rfl (by rw [hsn]; congr 1; omega) ?_
      refine D.flat (H' := [RBk d (.slice lp (gs.map Gf.gp).length lc) t, lh, ghp (a ++ ⟨y0.n, y0.b.take (q.kp last), List.replicate (q.kp last) 0, y0.blk, y0.pb, q.kp last, y0.cb, y0.hb, y0.pc, q.kp last, y0.cc, hc'⟩ :: b), R]) (by rw [ghp_split]; simp [slTo]) ?_
      exact D.rd (i + 1, a ++ ⟨y0.n, y0.b.take (q.kp last), List.replicate (q.kp last) 0, y0.blk, y0.pb, q.kp last, y0.cb, y0.hb, y0.pc, q.kp last, y0.cc, hc'⟩ :: b) ⟨by simp only []; omega, hnew⟩ (by simp only []; omega)
   ·obtain rfl : i = qs.length := by omega
    have hfin : crS qs last qs.length = qs.map (fun q => q.crash last) := by unfold crS; rw [take_length, drop_length, append_nil]
    rw [hfin] at hdi
    rw [take_length]
    try refine run ?_
    exact D.fin1 [RBk d (.slice lp (gs.map Gf.gp).length lc) t, lh, ghp gs'] _ rfl rfl ⟨last, gs', rfl, rfl, hdi, hlast⟩
  ·obtain ⟨last, hlt⟩ : ∃ last, last = t := ⟨t, rfl⟩
   have hlast : LastOk qs t keep.toNat last := ⟨by omega, fun _ => hlt, fun h => absurd h hkT⟩
   try refine run ?_
   refine W.as 8 (.int .i64 last) rfl (by rw [hlt]) ?_
   refine W.loop (α := Nat × List Gf) (fun x => x.1 ≤ qs.length ∧ Rk3 ((crS qs last x.1).map RfQ.pl) (.slice lp (gs.map Gf.gp).length lc) x.2 lh)
    (fun x => [(0, .pointer (some ⟨d, 0, none⟩)), (8, .int .i64 last), (9, .int .i64 ((((qs.take x.1).map fun q => q.b.length - q.kp last).sum : Nat) : Int)), (10, .int .i64 (x.1 : Int))])
    (fun x => [RBk d (.slice lp (gs.map Gf.gp).length lc) t, lh, ghp x.2, R]) (fun x => qs.length - x.1) (0, gs) ⟨Nat.zero_le _, hd⟩ (by repeat (first | exact Fsub.nil | refine Fsub.cons rfl ?_)) (Hsub.of_picks inferInstance) ?_
   rintro ⟨i, gs'⟩ ⟨hi, hdi⟩
   simp only [] at hi hdi ⊢
   have hri := hdi.sl.rs
   have hgli : (gs'.map Gf.gp).length = qs.length := hdi.len.trans ((length_map _).trans (crS_len hi))
   have hsul := sum_take_le (fun q : RfQ => q.b.length - q.kp last) qs i
   have hsut : (qs.map fun q => q.b.length - q.kp last).sum ≤ 1048576 := by
    refine Nat.le_trans ?_ ok.used
    exact sum_map_le _ _ _ fun q _ => Nat.sub_le _ _
   by_cases hil : i < qs.length
   ·obtain ⟨q, hq⟩ : ∃ q, qs[i]? = some q := ⟨_, List.getElem?_eq_getElem hil⟩
    obtain ⟨hat0, hset⟩ := crS_at (last := last) hq
    obtain ⟨a, y0, b, rfl, e, hal⟩ := hdi.nthL (q_nth hat0)
    obtain ⟨hok, hatm⟩ := hdi.me
    rw [hal] at hatm
    have hqm := mem_of_getElem? hq
    have hqo := ok.ok q hqm
    have hbl := ok.bl hqm
    have hcml := RfQ.cml hqo
    have hkp := RfQ.kp_le hqo last
    have hrb := hok.b.rs
    have hbb : y0.b = q.b := congrArg RfP.b e
    have hnn : y0.n = q.n := congrArg RfP.n e
    have hbbl : y0.b.length = q.b.length := by rw [hbb]
    have hcm : y0.cm = List.replicate q.s (0 : Int) ++ q.ts := congrArg RfP.cm e
    have hcml2 : y0.cm.length = q.b.length := by rw [hcm]; exact hcml
    have hsn : ((qs.take (i + 1)).map fun q => q.b.length - q.kp last).sum = ((qs.take i).map fun q => q.b.length - q.kp last).sum + (q.b.length - q.kp last) := by
     rw [take_succ_eq_append_getElem hil, (List.getElem?_eq_some_iff.1 hq).2]; simp
    refine W.flat (H' := [RBk d (.slice lp (gs.map Gf.gp).length lc) t, lh, ghp a, y0.bk, y0.hb, y0.hc, ghp b, R]) (by rw [ghp_split]; simp) ?_
    try refine run ?_
    refine W.loop (α := Nat × Hp) (fun x => x.1 ≤ q.kp last ∧ IsSl 3 (List.replicate x.1 (0 : Int) ++ y0.cm.drop x.1) (.slice y0.pc y0.lc y0.cc) x.2)
     (fun x => [(0, .pointer (some ⟨d, 0, none⟩)), (8, .int .i64 last), (9, .int .i64 ((((qs.take i).map fun q => q.b.length - q.kp last).sum : Nat) : Int)), (10, .int .i64 (i : Int)), (11, .pointer (some ⟨y0.blk, 0, none⟩)), (12, .int .i64 (x.1 : Int))])
     (fun x => [RBk d (.slice lp (gs.map Gf.gp).length lc) t, lh, ghp a, y0.bk, y0.hb, x.2, ghp b, R]) (fun x => q.kp last + 1 - x.1) (0, y0.hc) ⟨Nat.zero_le _, by simpa using hok.c⟩ (by repeat (first | exact Fsub.nil | refine Fsub.cons rfl ?_)) (Hsub.of_picks inferInstance) ?_
    rintro ⟨n, hc'⟩ ⟨hn, hsc⟩
    simp only [] at hn hsc ⊢
    have hrc := hsc.rs
    have hln : (List.replicate n (0 : Int) ++ y0.cm.drop n).length = y0.cm.length := by rw [length_append, length_replicate, length_drop]; omega
    have hcx : ∀ x, (List.replicate n (0 : Int) ++ y0.cm.drop n)[n]? = some x → (List.replicate q.s (0 : Int) ++ q.ts)[n]? = some x := fun x hx => by
     rw [List.getElem?_append_right (by simp), length_replicate, Nat.sub_self, List.getElem?_drop, Nat.add_zero, hcm] at hx
     exact hx
    by_cases hnk : n < q.kp last
    ·obtain ⟨x, hx⟩ : ∃ x, (List.replicate n (0 : Int) ++ y0.cm.drop n)[n]? = some x := ⟨_, List.getElem?_eq_getElem (by omega)⟩
     have hxl := (RfQ.at hqo hlast.1 (hcx x hx)).1 hnk
     have hst := rep_step (cm := y0.cm) (k := n) (by omega)
     try refine run ?_
     refine I.st ?_
     refine WX.storeE (y' := (0 : Int)) (vs := [.int .i64 0]) rfl rfl rfl hsc hx rfl rfl rfl rfl rfl (fun h2 hs2 => ?_)
     rw [hst] at hs2
     try refine run ?_
     exact D.rd (n + 1, h2) ⟨by simp only []; omega, hs2⟩ (by simp only []; omega)
    ·obtain rfl : n = q.kp last := by omega
     have hb2 := hok.b.to (m := q.kp last) (by omega)
     have hc2 := hsc.to (m := q.kp last) (by omega)
     rw [take_left' (by simp)] at hc2
     have hnew := hdi.put (y1 := ⟨y0.n, y0.b.take (q.kp last), List.replicate (q.kp last) 0, y0.blk, y0.pb, q.kp last, y0.cb, y0.hb, y0.pc, q.kp last, y0.cc, hc'⟩) rfl ⟨hb2, hc2, by simp only [length_replicate, length_take]; omega⟩
     rw [q_split hat0 hdi.split.symm hal (q1 := q.crash last) (by unfold Gf.pl RfQ.pl RfQ.crash RfQ.cut; simp [hnn, hbb]), hset] at hnew
     by_cases hnb : q.kp last < q.b.length
     ·obtain ⟨x, hx⟩ : ∃ x, (List.replicate (q.kp last) (0 : Int) ++ y0.cm.drop (q.kp last))[q.kp last]? = some x := ⟨_, List.getElem?_eq_getElem (by omega)⟩
      have hxl := (RfQ.at hqo hlast.1 (hcx x hx)).2 rfl
      try refine run ?_
      refine D.as 9 (.int .i64 ((((qs.take (i + 1)).map fun q => q.b.length - q.kp last).sum : Nat) : Int)) rfl (by rw [hsn]; congr 1; omega) ?_
      refine D.flat (H' := [RBk d (.slice lp (gs.map Gf.gp).length lc) t, lh, ghp (a ++ ⟨y0.n, y0.b.take (q.kp last), List.replicate (q.kp last) 0, y0.blk, y0.pb, q.kp last, y0.cb, y0.hb, y0.pc, q.kp last, y0.cc, hc'⟩ :: b), R]) (by rw [ghp_split]; simp [slTo]) ?_
      exact D.rd (i + 1, a ++ ⟨y0.n, y0.b.take (q.kp last), List.replicate (q.kp last) 0, y0.blk, y0.pb, q.kp last, y0.cb, y0.hb, y0.pc, q.kp last, y0.cc, hc'⟩ :: b) ⟨by simp only []; omega, hnew⟩ (by simp only []; omega)
     ·skip
      try refine run ?_
      refine D.as 9 (.int .i64 ((((qs.take (i + 1)).map fun q => q.b.length - q.kp last).sum : Nat) : Int)) rfl (by rw [hsn]; congr 1; omega) ?_
      refine D.flat (H' := [RBk d (.slice lp (gs.map Gf.gp).length lc) t, lh, ghp (a ++ ⟨y0.n, y0.b.take (q.kp last), List.replicate (q.kp last) 0, y0.blk, y0.pb, q.kp last, y0.cb, y0.hb, y0.pc, q.kp last, y0.cc, hc'⟩ :: b), R]) (by rw [ghp_split]; simp [slTo]) ?_
      exact D.rd (i + 1, a ++ ⟨y0.n, y0.b.take (q.kp last), List.replicate (q.kp last) 0, y0.blk, y0.pb, q.kp last, y0.cb, y0.hb, y0.pc, q.kp last, y0.cc, hc'⟩ :: b) ⟨by simp only []; omega, hnew⟩ (by simp only []; omega)
   ·obtain rfl : i = qs.length := by omega
    have hfin : crS qs last qs.length = qs.map (fun q => q.crash last) := by unfold crS; rw [take_length, drop_length, append_nil]
    rw [hfin] at hdi
    rw [take_length]
    try refine run ?_
    exact D.fin1 [RBk d (.slice lp (gs.map Gf.gp).length lc) t, lh, ghp gs'] _ rfl rfl ⟨last, gs', rfl, rfl, hdi, hlast⟩
end Go.Proofs.YtejfahjgfedliaaGreat

namespace Go.Proofs.YtejfahjgfedliaaGreat
open Go Go.Sl List
def Lf.s7 (f : Lf) : Nat := (bytes (f.rs.take f.k)).length
structure FR (f : Lf) (q : RfQ) : Prop where
 n : q.n = f.n
 b : q.b = bytes f.rs
 s : q.s = f.s7
 e : q.s + q.ts.length = q.b.length
inductive All2 {α β : Type} (R : α → β → Prop) : List α → List β → Prop
 | nil : All2 R [] []
 | cons {a : α} {b : β} {l : List α} {m : List β} (h : R a b) (t : All2 R l m) : All2 R (a :: l) (b :: m)
theorem All2.len {α β : Type} {R : α → β → Prop} {l : List α} {m : List β} (h : All2 R l m) : l.length = m.length := by
 induction h with
 | nil => rfl
 | cons _ _ ih => simp [ih]
theorem All2.app {α β : Type} {R : α → β → Prop} {l l' : List α} {m m' : List β} (h : All2 R l m) (k : All2 R l' m') : All2 R (l ++ l') (m ++ m') := by
 induction h with
 | nil => exact k
 | cons a _ ih => exact .cons a ih
theorem All2.map_eq {α β γ : Type} {R : α → β → Prop} {f : α → γ} {f' : β → γ} (hf : ∀ a b, R a b → f' b = f a) {l : List α} {m : List β} (h : All2 R l m) : m.map f' = l.map f := by
 induction h with
 | nil => rfl
 | cons a _ ih => rw [map_cons, map_cons, ih, hf _ _ a]
theorem All2.get {α β : Type} {R : α → β → Prop} {l : List α} {m : List β} (h : All2 R l m) {i : Nat} {a : α} {b : β} (ha : l[i]? = some a) (hb : m[i]? = some b) : R a b := by
 induction h generalizing i with
 | nil => simp at ha
 | cons x _ ih =>
  cases i with
  | zero => cases ha; cases hb; exact x
  | succ i => exact ih (by simpa using ha) (by simpa using hb)
theorem All2.snoc_inv {α β : Type} {R : α → β → Prop} {l : List α} {a : α} {m : List β} (h : All2 R (l ++ [a]) m) : ∃ m' b, m = m' ++ [b] ∧ All2 R l m' ∧ R a b := by
 induction l generalizing m with
 | nil =>
  cases h with
  | cons x t => cases t; exact ⟨[], _, rfl, .nil, x⟩
 | cons y r ih =>
  cases h with
  | cons x t =>
   obtain ⟨m', b, rfl, h1, h2⟩ := ih t
   exact ⟨_ :: m', b, rfl, .cons x h1, h2⟩
structure LR (l : List Lf) (qs : List RfQ) (t : Int) : Prop where
 m : All2 FR l qs
 inc : (allT qs).Pairwise (· < ·)
 pos : ∀ x ∈ allT qs, 0 < x ∧ x ≤ t
 t0 : 0 ≤ t
section
variable {l : List Lf} {qs : List RfQ} {t : Int}
theorem mem_allT {qs : List RfQ} {q : RfQ} (hq : q ∈ qs) {x : Int} (hx : x ∈ q.ts) : x ∈ allT qs := mem_flatten.2 ⟨q.ts, mem_map.2 ⟨q, hq, rfl⟩, hx⟩
theorem LR.names (h : LR l qs t) : qs.map (·.n) = l.map (·.n) := h.m.map_eq fun _ _ x => x.n
theorem LR.lens (h : LR l qs t) : (qs.map fun q => q.b.length) = l.map fun f => (bytes f.rs).length := h.m.map_eq fun _ _ x => by rw [x.b]
theorem LR.fr (h : LR l qs t) {q : RfQ} (hq : q ∈ qs) : ∃ f ∈ l, FR f q := by
 obtain ⟨i, hi⟩ := mem_iff_getElem?.1 hq
 have hlt := (List.getElem?_eq_some_iff.1 hi).1
 have hl := h.m.len
 refine ⟨l[i], getElem_mem (by omega), h.m.get (List.getElem?_eq_getElem (by omega)) hi⟩
theorem LR.q (h : LR l qs t) (ok : LUp l) : QOk qs where
 up := by rw [h.names]; exact pairwise_map.2 ok.up
 ok := fun q hq => by
  obtain ⟨f, _, hf⟩ := h.fr hq
  exact ⟨hf.e, fun x hx => (h.pos x (mem_allT hq hx)).1⟩
 used := by rw [h.lens]; have := ok.used; rw [dk_used] at this; exact this
 len := by have := ok.len; rw [h.m.len] at this; exact this
theorem LR.used (h : LR l qs t) : used7 qs = (dk l).used := by unfold used7; rw [h.lens, dk_used]
theorem LR.nil : LR [] [] 0 := ⟨.nil, .nil, by simp [allT], Int.le_refl 0⟩
theorem tms_mem {t : Int} {k : Nat} {x : Int} (h : x ∈ tms t k) : t < x ∧ x ≤ t + k := by
 unfold tms at h
 obtain ⟨i, hi, rfl⟩ := mem_map.1 h
 have := mem_range.1 hi
 omega
theorem tms_up (t : Int) (k : Nat) : (tms t k).Pairwise (· < ·) := by
 unfold tms
 rw [pairwise_map]
 exact List.Pairwise.imp (fun h => by omega) pairwise_lt_range
theorem allT_app (a b : List RfQ) : allT (a ++ b) = allT a ++ allT b := by unfold allT; rw [map_append, flatten_append]
theorem allT_one (q : RfQ) : allT [q] = q.ts := by unfold allT; simp
theorem LR.times {T : List Int} {t : Int} (hi : T.Pairwise (· < ·)) (hp : ∀ x ∈ T, 0 < x ∧ x ≤ t) (h0 : 0 ≤ t) (k : Nat) : (T ++ tms t k).Pairwise (· < ·) ∧ ∀ x ∈ T ++ tms t k, 0 < x ∧ x ≤ t + k := by
 refine ⟨pairwise_append.2 ⟨hi, tms_up t k, fun a ha b hb => ?_⟩, fun x hx => ?_⟩
 ·have h1 := hp a ha
  have h2 := tms_mem hb
  omega
 ·rcases mem_append.1 hx with hx | hx
  ·have := hp x hx; omega
  ·have := tms_mem hx; omega
theorem LR.new (h : LR l qs t) (n : Int) (r : Rec) : LR (l ++ [⟨n, [r], 0⟩]) (qs ++ [⟨n, r.fr, 0, tms t r.fr.length⟩]) (t + r.fr.length) := by
 obtain ⟨h1, h2⟩ := LR.times h.inc h.pos h.t0 r.fr.length
 refine ⟨h.m.app (.cons ⟨rfl, (bytes_one r).symm, rfl, ?_⟩ .nil), ?_, ?_, by have := h.t0; omega⟩
 ·simp only [tms_len]; omega
 ·rw [allT_app, allT_one]; exact h1
 ·rw [allT_app, allT_one]; exact h2
theorem LR.old {pre : List Lf} {f : Lf} {qp : List RfQ} {q : RfQ} (h : LR (pre ++ [f]) (qp ++ [q]) t) (hk : f.k ≤ f.rs.length) (r : Rec) : LR (pre ++ [⟨f.n, f.rs ++ [r], f.k⟩]) (qp ++ [q.app r.fr t]) (t + r.fr.length) := by
 obtain ⟨m', b', e, h1, h2⟩ := h.m.snoc_inv
 obtain ⟨rfl, rfl⟩ : qp = m' ∧ q = b' := by
  have := append_inj' e rfl
  exact ⟨this.1, by simpa using this.2⟩
 have hi := h.inc
 have hp := h.pos
 rw [allT_app, allT_one] at hi hp
 obtain ⟨h3, h4⟩ := LR.times hi hp h.t0 r.fr.length
 refine ⟨h1.app (.cons ⟨h2.n, ?_, ?_, ?_⟩ .nil), ?_, ?_, by have := h.t0; omega⟩
 ·show q.b ++ r.fr = _
  rw [h2.b, bytes_app, bytes_one]
 ·show q.s = _
  rw [h2.s]
  unfold Lf.s7
  simp only [take_append_of_le_length hk]
 ·show q.s + (q.ts ++ tms t r.fr.length).length = (q.b ++ r.fr).length
  rw [length_append, length_append, tms_len]
  have := h2.e
  omega
 ·rw [allT_app, allT_one]; show (allT qp ++ (q.ts ++ tms t r.fr.length)).Pairwise _; rw [← append_assoc]; exact h3
 ·rw [allT_app, allT_one]; show ∀ x ∈ allT qp ++ (q.ts ++ tms t r.fr.length), _; rw [← append_assoc]; exact h4
theorem syn_ts (qs : List RfQ) : allT (qs.map RfQ.syn) = [] := by
 unfold allT
 rw [flatten_eq_nil_iff]
 intro x hx
 obtain ⟨q, hq, rfl⟩ := mem_map.1 hx
 obtain ⟨p, _, rfl⟩ := mem_map.1 hq
 rfl
theorem FR.syn {f : Lf} {q : RfQ} (h : FR f q) : FR f.full q.syn := ⟨h.n, h.b, by show q.b.length = _; rw [h.b]; unfold Lf.s7 Lf.full; simp, by show q.b.length + 0 = q.b.length; omega⟩
theorem All2.maps {α β α' β' : Type} {R : α → β → Prop} {S : α' → β' → Prop} {f : α → α'} {f' : β → β'} (hf : ∀ a b, R a b → S (f a) (f' b)) {l : List α} {m : List β} (h : All2 R l m) : All2 S (l.map f) (m.map f') := by
 induction h with
 | nil => exact .nil
 | cons a _ ih => exact .cons (hf _ _ a) ih
theorem LR.sync (h : LR l qs t) : LR (lsync l) (qs.map RfQ.syn) t := ⟨h.m.maps fun _ _ x => x.syn, by rw [syn_ts]; exact .nil, by rw [syn_ts]; simp, h.t0⟩
end
end Go.Proofs.YtejfahjgfedliaaGreat

namespace Go.Proofs.YtejfahjgfedliaaGreat
open Go Go.Sl Go.Proofs.Tryz List
def RD (l : List Lf) (d : Nat) (h : Hp) (T : Int) : Prop := ∃ qs t, LR l qs t ∧ t ≤ T ∧ IsRk (qs.map RfQ.pl) t d h
theorem RD.mono {l : List Lf} {d : Nat} {h : Hp} {T T' : Int} (k : RD l d h T) (hT : T ≤ T') : RD l d h T' := by
 obtain ⟨qs, t, a, b, c⟩ := k
 exact ⟨qs, t, a, by omega, c⟩
theorem rsize_end {fs : List RfP} {t : Int} {d : Nat} {h : Hp} (hd : IsRk fs t d h) (hl : fs.length ≤ 1099511627776) {n : Int} (hlt : ∀ y ∈ fs, y.n < n) :
  Ct prog 203 [.pointer (some ⟨d, 0, none⟩), .int .i64 n] [h] (fun r H' => r = .int .i64 0 ∧ H' = [h]) := by
 obtain ⟨lv, gs, lh, hd, rfl⟩ := hd
 have hf := rfind_end (d := d) (t := t) hd hlt hl
 unfold rfPost at hf
 refine Ct.pack (pre := [RBk d lv t, lh, ghp gs]) (post := fun r H' => r = .int .i64 0 ∧ H' = [RBk d lv t, lh, ghp gs]) ?_ (by simp) (fun r H' p => ⟨[RBk d lv t ++ (lh ++ ghp gs)], by rw [p.2]; simp, p.1, rfl⟩)
 refine Ct.mk' func203 rfl rfl rfl (fun g R => ?_)
 try simp only [ca]
 simp only [na]
 try refine run ?_
 refine WX.callQ rfl hf rfl ?_
 try refine run ?_
 exact D.fin1 [RBk d lv t, lh, ghp gs] _ rfl rfl ⟨rfl, rfl⟩
section
variable {l : List Lf} {d : Nat} {h hx : Hp} {T : Int}
theorem last_split {pre : List Lf} {f : Lf} {qs : List RfQ} {t : Int} (h : LR (pre ++ [f]) qs t) : ∃ qp q, qs = qp ++ [q] ∧ FR f q ∧ qp.length = pre.length := by
 obtain ⟨m', b', e, h1, h2⟩ := h.m.snoc_inv
 exact ⟨m', b', e, h2, h1.len.symm⟩
theorem rsize_log (ok : LOk l) (hd : RD l d h T) : Ct prog 203 [.pointer (some ⟨d, 0, none⟩), .int .i64 (lastN l)] [h] (fun r H' => r = .int .i64 ((dk l).size (lastN l) : Int) ∧ H' = [h]) := by
 have hs := size_last ok
 obtain ⟨qs, t, lr, -, hd⟩ := hd
 have qok := lr.q ok.toLUp
 have hll := qok.len
 rcases eq_nil_or_concat l with rfl | ⟨pre, f, rfl⟩
 ·rw [hs]
  have hq : qs = [] := by have := lr.m.len; exact length_eq_zero_iff.1 (by simpa using this.symm)
  subst hq
  exact rsize_end hd (by decide) (by simp)
 ·rw [concat_eq_append] at hs lr ⊢
  rw [List.getLast?_concat] at hs
  rw [hs]
  obtain ⟨qp, q, rfl, fr, -⟩ := last_split lr
  have hq : (qp ++ [q])[qp.length]? = some q := List.getElem?_concat_length
  have := rsize_ct hd qok.srt (by rw [length_map]; omega) (q_nth hq)
  rw [show q.pl.n = lastN (pre ++ [f]) from by rw [lastN_app]; exact fr.n, show q.pl.b = bytes f.rs from fr.b] at this
  exact this
theorem set_last {qp : List RfQ} {q q1 : RfQ} : (qp ++ [q]).set qp.length q1 = qp ++ [q1] := by rw [set_append_right _ _ (Nat.le_refl _), Nat.sub_self]; rfl
theorem rapp_log (ok : LOk l) (hd : RD l d h T) (hT : T ≤ 549755813888) {r : Rec} (hc : r.code = 0) {u : Value} (hb : Rs r.fr u hx) :
  Ct prog 155 [.pointer (some ⟨d, 0, none⟩), .int .i64 (toN l), u] [h, hx] (fun res H' => ∃ (e : Int) (h' : Hp), res = .int .i64 e ∧ H' = [h', hx] ∧ (e = 0 ↔ (ladd1 l r).2 = 0) ∧ RD (ladd1 l r).1 d h' (T + 243)) := by
 have hle := (Rec.good hc).fr_le
 obtain ⟨qs, t, lr, ht, hd⟩ := hd
 have ht0 := lr.t0
 have qok := lr.q ok.toLUp
 have hus := lr.used
 have hll := lr.m.len
 unfold ladd1
 rw [if_neg (by simpa using hc)]
 rcases eq_nil_or_concat l with rfl | ⟨pre, f, rfl⟩
 ·have hq : qs = [] := length_eq_zero_iff.1 (by simpa using hll.symm)
  subst hq
  have := rappend_new qok ht0 (by omega) hd (n := 0) (by simp) (Int.le_refl 0) (by decide) (by decide) hb (by rw [hus, used_nil]; omega)
  refine Ct.mono this ?_
  rintro _ H' ⟨h', rfl, e, hd'⟩
  exact ⟨0, h', rfl, e, ⟨fun _ => rfl, fun _ => rfl⟩, _, _, LR.new lr 0 r, by omega, hd'⟩
 ·rw [concat_eq_append] at ok lr hus hll ⊢
  have hs := size_last ok
  have hlo := ok.lo f (by simp)
  have hhi := ok.hi f (by simp)
  have hlm := ok.len
  rw [List.getLast?_concat] at hs ⊢
  simp only [dropLast_concat] at hs ⊢
  obtain ⟨qp, q, rfl, fr, hqp⟩ := last_split lr
  have hqn : ∀ x ∈ qp ++ [q], x.n < f.n + 1 := fun x hx => by
   have hup := qok.up
   rw [map_append, pairwise_append] at hup
   have hfn := fr.n
   rcases mem_append.1 hx with hx | hx
   ·have := hup.2.2 _ (mem_map.2 ⟨x, hx, rfl⟩) q.n (by simp)
    omega
   ·rw [mem_singleton.1 hx]; omega
  by_cases h4 : 4096 ≤ (bytes f.rs).length
  ·have htn : toN (pre ++ [f]) = f.n + 1 := by unfold toN; rw [hs, if_pos h4, lastN_app]
   rw [htn, if_pos h4]
   by_cases hfar : 1099511627776 < f.n + 1
   ·rw [if_pos (.inl hfar)]
    refine Ct.mono (rappend_far (qs := qp ++ [q]) (t := t) (h := h) (hx := hx) hfar) ?_
    rintro _ H' ⟨rfl, e⟩
    exact ⟨50, h, rfl, e, ⟨fun h => absurd h (by decide), fun h => absurd (show (51 : Int) = 0 from h) (by decide)⟩, _, _, lr, by omega, hd⟩
   by_cases hful : 64 ≤ (pre ++ [f]).length ∨ 1048576 < (dk (pre ++ [f])).used + r.fr.length
   ·rw [if_pos (.inr hful)]
    refine Ct.mono (rappend_full qok hd hqn (by omega) (by omega) hb (by omega) (by rw [hus, ← hll]; exact hful)) ?_
    rintro _ H' ⟨rfl, e⟩
    exact ⟨51, h, rfl, e, ⟨fun h => absurd h (by decide), fun h => absurd (show (51 : Int) = 0 from h) (by decide)⟩, _, _, lr, by omega, hd⟩
   ·rw [if_neg (fun h => h.elim hfar hful)]
    simp only [not_or, Nat.not_le, Nat.not_lt] at hful
    refine Ct.mono (rappend_new qok ht0 (by omega) hd hqn (by omega) (by omega) (by omega) hb (by rw [hus]; omega)) ?_
    rintro _ H' ⟨h', rfl, e, hd'⟩
    exact ⟨0, h', rfl, e, ⟨fun _ => rfl, fun _ => rfl⟩, _, _, LR.new lr (f.n + 1) r, by omega, hd'⟩
  ·have htn : toN (pre ++ [f]) = f.n := by unfold toN; rw [hs, if_neg h4, lastN_app]
   have hq : (qp ++ [q])[qp.length]? = some q := List.getElem?_concat_length
   have hfn := fr.n
   rw [htn, if_neg h4, ← hfn]
   by_cases hful : 1048576 < (dk (pre ++ [f])).used + r.fr.length
   ·rw [if_pos hful]
    refine Ct.mono (rappend_more qok hd hq (by omega) (by omega) hb (by omega) (by rw [hus]; exact hful)) ?_
    rintro _ H' ⟨rfl, e⟩
    exact ⟨51, h, rfl, e, ⟨fun h => absurd h (by decide), fun h => absurd (show (51 : Int) = 0 from h) (by decide)⟩, _, _, lr, by omega, hd⟩
   ·rw [if_neg hful]
    refine Ct.mono (rappend_old qok ht0 (by omega) hd hq (by omega) (by omega) hb (by show used7 _ + _ ≤ _; rw [hus]; omega)) ?_
    rintro _ H' ⟨h', rfl, e, hd'⟩
    rw [set_last] at hd'
    rw [hfn]
    exact ⟨0, h', rfl, e, ⟨fun _ => rfl, fun _ => rfl⟩, _, _, LR.old lr (ok.k f (by simp)) r, by omega, hd'⟩
end
abbrev VBk (w d : Nat) (seg torn : Int) : Hp := [(w, .cells (List.toArray [.pointer (some ⟨d, 0, none⟩), .int .i64 seg, .int .i64 torn]) 148 (0, 0))]
set_option maxHeartbeats 2000000 in
theorem vadd_ct {l : List Lf} (ok : LOk l) {d : Nat} {h : Hp} {T : Int} (hd : RD l d h T) {rs : List Rec} {v : Value} {hx : Hp} (hr : Rs rs v hx) (hl : rs.length ≤ 1000000) (hT0 : 0 ≤ T) (hT : T ≤ 274877906944) (hz : ∀ r ∈ rs, r.size ≤ 1073741824) {w : Nat} {torn : Int} :
  Ct prog 157 [.pointer (some ⟨w, 0, none⟩), v] [VBk w d (lastN l) torn, h, hx] (fun res H' => ∃ h', res = .int .i64 (ladd l rs).2 ∧ H' = [VBk w d (lastN (ladd l rs).1) torn, h', hx] ∧ RD (ladd l rs).1 d h' (T + 243 * (rs.length : Int))) := by
 refine Ct.mk' func157 rfl rfl rfl (fun g R => ?_)
 try simp only [ca]
 simp only [na]
 try refine run ?_
 refine W.loop (α := Nat × List Lf × Hp) (fun x => x.1 ≤ rs.length ∧ LOk x.2.1 ∧ RD x.2.1 d x.2.2 (T + 243 * (x.1 : Int)) ∧ ladd l rs = ladd x.2.1 (rs.drop x.1))
  (fun x => [(0, .pointer (some ⟨w, 0, none⟩)), (1, v), (5, .int .i64 (x.1 : Int))])
  (fun x => [VBk w d (lastN x.2.1) torn, x.2.2, hx, R]) (fun x => rs.length - x.1) (0, l, h) ⟨Nat.zero_le _, ok, by simpa using hd, rfl⟩ (by repeat (first | exact Fsub.nil | refine Fsub.cons rfl ?_)) (Hsub.of_picks inferInstance) ?_
 rintro ⟨i, m, y⟩ ⟨hi, okm, hdm, he⟩
 simp only [] at hi okm hdm he ⊢
 by_cases hlt : i < rs.length
 ·obtain ⟨r, hri⟩ : ∃ r, rs[i]? = some r := ⟨_, List.getElem?_eq_getElem hlt⟩
  rw [ladd_drop hri] at he
  have hsz := hz r (mem_of_getElem? hri)
  have hrp := orec_ct r hsz
  have hsc := rsize_log okm hdm
  have hrg := lastN_range okm
  by_cases hc : r.code = 0
  ·rw [hc] at hrp
   obtain ⟨hA, hB⟩ := ladd1_good okm hc
   have okn := okm.add1 r
   try refine run ?_
   refine WX.call rfl hrp rfl ?_
   rintro _ _ ⟨u2, h2, rfl, rfl, hs2⟩
   have hap := rapp_log okm hdm (by omega) hc hs2.rs
   have htn : toN m = if 4096 ≤ (dk m).size (lastN m) then lastN m + 1 else lastN m := rfl
   have hlN : (ladd1 m r).2 = 0 → lastN (ladd1 m r).1 = toN m := fun h0 => by
    by_cases hE : (dk m).appE (toN m) r.fr.length = 0
    ·exact (hB hE).2.2
    ·rw [hA hE] at h0; exact absurd (show (51 : Int) = 0 from h0) (by decide)
   have hbad : (ladd1 m r).2 ≠ 0 → (ladd1 m r) = (m, 51) := fun h0 => by
    by_cases hE : (dk m).appE (toN m) r.fr.length = 0
    ·exact absurd (hB hE).1 h0
    ·exact hA hE
   simp only [ca, na]
   by_cases h4 : 4096 ≤ (dk m).size (lastN m)
   ·rw [if_pos h4] at htn
    rw [htn] at hap hlN
    try refine run ?_
    refine WX.callQ rfl hsc rfl ?_
    try refine run ?_
    refine WX.call rfl hap rfl ?_
    rintro _ _ ⟨e, y', rfl, rfl, hee, hdy⟩
    simp only [ca, na]
    by_cases hE : (ladd1 m r).2 = 0
    ·have he0 := hee.2 hE
     subst he0
     rw [if_neg (fun hn => hn hE)] at he
     try refine run ?_
     rw [← hlN hE]
     exact D.rd (i + 1, (ladd1 m r).1, y') ⟨by simp only []; omega, okn, hdy.mono (by simp only []; omega), he⟩ (by simp only []; omega)
    ·have he0 : ¬ e = 0 := fun h0 => hE (hee.1 h0)
     rw [if_pos hE, hbad hE] at he
     rw [hbad hE] at hdy
     try refine run ?_
     exact D.fin1 [VBk w d (lastN m) torn, y', hx] _ rfl rfl ⟨y', by rw [he], by rw [he], by rw [he]; exact hdy.mono (by omega)⟩
   ·rw [if_neg h4] at htn
    rw [htn] at hap hlN
    try refine run ?_
    refine WX.callQ rfl hsc rfl ?_
    try refine run ?_
    refine WX.call rfl hap rfl ?_
    rintro _ _ ⟨e, y', rfl, rfl, hee, hdy⟩
    simp only [ca, na]
    by_cases hE : (ladd1 m r).2 = 0
    ·have he0 := hee.2 hE
     subst he0
     rw [if_neg (fun hn => hn hE)] at he
     try refine run ?_
     rw [← hlN hE]
     exact D.rd (i + 1, (ladd1 m r).1, y') ⟨by simp only []; omega, okn, hdy.mono (by simp only []; omega), he⟩ (by simp only []; omega)
    ·have he0 : ¬ e = 0 := fun h0 => hE (hee.1 h0)
     rw [if_pos hE, hbad hE] at he
     rw [hbad hE] at hdy
     try refine run ?_
     exact D.fin1 [VBk w d (lastN m) torn, y', hx] _ rfl rfl ⟨y', by rw [he], by rw [he], by rw [he]; exact hdy.mono (by omega)⟩
  ·rw [ladd1_bad hc, if_pos hc] at he
   try refine run ?_
   refine WX.call rfl hrp rfl ?_
   rintro _ _ ⟨u2, h2, rfl, rfl, hs2⟩
   simp only [ca, na]
   try refine run ?_
   exact D.fin1 [VBk w d (lastN m) torn, y, hx] _ rfl rfl ⟨y, by rw [he], by rw [he], by rw [he]; exact hdm.mono (by omega)⟩
 ·have hlen : rs.drop i = [] := drop_eq_nil_of_le (by omega)
  rw [hlen] at he
  try refine run ?_
  exact D.fin1 [VBk w d (lastN m) torn, y, hx] _ rfl rfl ⟨y, by rw [he]; rfl, by rw [he]; rfl, by rw [he]; exact hdm.mono (by omega)⟩
def syS (qs : List RfQ) (i : Nat) : List RfQ := (qs.take i).map RfQ.syn ++ qs.drop i
theorem syS_at {qs : List RfQ} {i : Nat} {q : RfQ} (h : qs[i]? = some q) : (syS qs i)[i]? = some q ∧ (syS qs i).set i q.syn = syS qs (i + 1) := by
 obtain ⟨h1, h2⟩ := List.getElem?_eq_some_iff.1 h
 have hl : ((qs.take i).map RfQ.syn).length = i := by rw [length_map, length_take]; omega
 unfold syS
 have hd : qs.drop i = q :: qs.drop (i + 1) := by rw [drop_eq_getElem_cons h1, h2]
 constructor
 ·rw [List.getElem?_append_right (by omega), hl, Nat.sub_self, hd]; rfl
 ·rw [set_append_right _ _ (by omega), hl, Nat.sub_self, hd, set_cons_zero, take_succ_eq_append_getElem h1, h2, map_append, append_assoc]; rfl
theorem syS_map {γ : Type} {f : RfQ → γ} (hf : ∀ q, f q.syn = f q) (qs : List RfQ) (i : Nat) : (syS qs i).map f = qs.map f := by
 unfold syS
 rw [map_append, map_map]
 conv => rhs; rw [← take_append_drop i qs, map_append]
 congr 1
 exact map_congr_left fun x _ => hf x
theorem syS_ok {qs : List RfQ} (ok : QOk qs) (i : Nat) : QOk (syS qs i) where
 up := by rw [syS_map (f := (·.n)) (fun _ => rfl)]; exact ok.up
 ok := fun q hq => by
  unfold syS at hq
  rcases mem_append.1 hq with hq | hq
  ·obtain ⟨p, hp, rfl⟩ := mem_map.1 hq
   exact ⟨by show p.b.length + 0 = p.b.length; omega, by show ∀ x ∈ [], _; simp⟩
  ·exact ok.ok q (mem_of_mem_drop hq)
 used := by rw [syS_map (f := fun q => q.b.length) (fun _ => rfl)]; exact ok.used
 len := by have := ok.len; have h2 := congrArg List.length (syS_map (f := (·.n)) (fun _ => rfl) qs i); simp only [length_map] at h2; omega
set_option maxHeartbeats 1000000 in
theorem vsync_ct {l : List Lf} (ok : LOk l) {d : Nat} {h : Hp} {T : Int} (hd : RD l d h T) {w : Nat} {seg torn : Int} :
  Ct prog 103 [.pointer (some ⟨w, 0, none⟩)] [VBk w d seg torn, h] (fun res H' => ∃ h', H' = [VBk w d seg torn, h'] ∧ RD (lsync l) d h' T) := by
 obtain ⟨qs, t, lr, ht, hd⟩ := hd
 have qok := lr.q ok.toLUp
 have hll := qok.len
 have hfc := rfiles_ct hd (by rw [length_map]; omega)
 have hnm : (qs.map RfQ.pl).map (·.n) = qs.map (·.n) := by rw [map_map]; rfl
 rw [hnm] at hfc
 have hnl : (qs.map (·.n)).length = qs.length := length_map _
 refine Ct.mk' func103 rfl rfl rfl (fun g R => ?_)
 try simp only [ca]
 simp only [na]
 try refine run ?_
 refine WX.call rfl hfc rfl ?_
 rintro u _ ⟨hn, rfl, hs⟩
 have hr := hs.rs
 simp only [ca, na]
 try refine run ?_
 refine W.loop (α := Nat × Hp) (fun x => x.1 ≤ qs.length ∧ IsRk ((syS qs x.1).map RfQ.pl) t d x.2) (fun x => [(0, .pointer (some ⟨w, 0, none⟩)), (2, u), (3, .int .i64 (x.1 : Int))])
  (fun x => [VBk w d seg torn, x.2, hn, R]) (fun x => qs.length - x.1) (0, h) ⟨Nat.zero_le _, by simpa [syS] using hd⟩ (by repeat (first | exact Fsub.nil | refine Fsub.cons rfl ?_)) (Hsub.of_picks inferInstance) ?_
 rintro ⟨i, y⟩ ⟨hi, hdi⟩
 simp only [] at hi hdi ⊢
 by_cases hil : i < qs.length
 ·obtain ⟨q, hq⟩ : ∃ q, qs[i]? = some q := ⟨_, List.getElem?_eq_getElem hil⟩
  have hqn : (qs.map (·.n))[i]? = some q.n := by rw [List.getElem?_map, hq]; rfl
  obtain ⟨h1, h2⟩ := syS_at hq
  have hsy := rsync_ct (syS_ok qok i) hdi h1
  rw [h2] at hsy
  try refine run ?_
  refine W.mix (List.replicate 8 true) [VBk w d seg torn, hn] Tryz.mix (by kernel_rfl) ?_
  try refine run ?_
  refine WX.call rfl hsy rfl ?_
  rintro _ _ ⟨y', rfl, rfl, hdy⟩
  simp only [ca, na]
  try refine run ?_
  exact D.rd (i + 1, y') ⟨by simp only []; omega, hdy⟩ (by simp only []; omega)
 ·obtain rfl : i = qs.length := by omega
  have hfin : syS qs qs.length = qs.map RfQ.syn := by unfold syS; rw [take_length, drop_length, append_nil]
  rw [hfin] at hdi
  try refine run ?_
  exact D.finE [VBk w d seg torn, y] _ rfl ⟨y, rfl, _, t, lr.sync, ht, hdi⟩
theorem vroom_ct {l : List Lf} (ok : LOk l) {d : Nat} {h : Hp} {T : Int} (hd : RD l d h T) {w : Nat} {seg torn : Int} (n : Int) :
  Ct prog 99 [.pointer (some ⟨w, 0, none⟩), .int .i64 n] [VBk w d seg torn, h] (fun res H' => res = .bool (roomB l n) ∧ H' = [VBk w d seg torn, h]) := by
 obtain ⟨qs, t, lr, ht, hd⟩ := hd
 have qok := lr.q ok.toLUp
 have hll := qok.len
 have hml := lr.m.len
 have hus := lr.used
 have hu1 := ok.used
 have hfc := rfiles_ct hd (by rw [length_map]; omega)
 have hnm : (qs.map RfQ.pl).map (·.n) = qs.map (·.n) := by rw [map_map]; rfl
 rw [hnm] at hfc
 have hnl : (qs.map (·.n)).length = qs.length := length_map _
 have huc : Ct prog 152 [.pointer (some ⟨d, 0, none⟩)] [h] (fun r H' => r = .int .i64 ((dk l).used : Int) ∧ H' = [h]) := by
  obtain ⟨lv, gs, lh, hd3, rfl⟩ := hd
  rw [← hus]
  exact (rused_q (d := d) (t := t) qok hd3).pack (by simp) (fun r H' p => ⟨[RBk d lv t ++ (lh ++ ghp gs)], by rw [p.2]; simp, p.1, rfl⟩)
 refine Ct.mk' func99 rfl rfl rfl (fun g R => ?_)
 try simp only [ca]
 simp only [na]
 unfold roomB
 by_cases h0 : 0 ≤ n
 ·by_cases h2 : n ≤ 2048
  ·try refine run ?_
   refine WX.call rfl hfc rfl ?_
   rintro u _ ⟨hn, rfl, hs⟩
   have hr := hs.rs
   simp only [ca, na]
   by_cases h63 : l.length < 63
   ·try refine run ?_
    refine WX.callQ rfl huc rfl ?_
    repeat' (first | refine run ?_ | refine WX.mul rfl rfl rfl (by omega) ?_ | fail)
    exact D.fin1 [VBk w d seg torn, h] _ rfl rfl ⟨by congr 1; rw [decide_eq_decide]; omega, rfl⟩
   ·try refine run ?_
    exact D.fin1 [VBk w d seg torn, h] _ rfl rfl ⟨by rw [decide_eq_false (by omega)], rfl⟩
  ·try refine run ?_
   exact D.fin1 [VBk w d seg torn, h] _ rfl rfl ⟨by rw [decide_eq_false (by omega)], rfl⟩
 ·try refine run ?_
  exact D.fin1 [VBk w d seg torn, h] _ rfl rfl ⟨by rw [decide_eq_false (by omega)], rfl⟩
theorem QOk.suf {a b : List RfQ} (h : QOk (a ++ b)) : QOk b where
 up := by have := h.up; rw [map_append, pairwise_append] at this; exact this.2.1
 ok := fun q hq => h.ok q (mem_append_right _ hq)
 used := by have := h.used; rw [map_append, sum_append] at this; omega
 len := by have := h.len; rw [length_append] at this; omega
theorem vapp_cut {l : List Lf} (ok : LOk l) {d : Nat} {h hx : Hp} {qs : List RfQ} {t : Int} (lr : LR l qs t) (ht : t ≤ 549755813888) (hd : IsRk (qs.map RfQ.pl) t d h) {u : Value} (hb : Rs cutR.fr u hx) :
  Ct prog 155 [.pointer (some ⟨d, 0, none⟩), .int .i64 (lastN l + 1), u] [h, hx] (fun res H' => ∃ (e : Int) (h' : Hp), res = .int .i64 e ∧ H' = [h', hx] ∧ (e = 0 ↔ (dk l).appE (lastN l + 1) cutR.fr.length = 0) ∧ (e ≠ 0 → h' = h) ∧ (e = 0 → IsRk ((qs ++ [(⟨lastN l + 1, cutR.fr, 0, tms t cutR.fr.length⟩ : RfQ)]).map RfQ.pl) (t + cutR.fr.length) d h')) := by
 have hle := (Rec.good cutR_code).fr_le
 have ht0 := lr.t0
 have qok := lr.q ok.toLUp
 have hus := lr.used
 have hll := lr.m.len
 have hrg := lastN_range ok
 have hnx := find_next ok (n := lastN l + 1) (by omega)
 have hqn : ∀ x ∈ qs, x.n < lastN l + 1 := by
  rcases eq_nil_or_concat l with rfl | ⟨pre, f, rfl⟩
  ·have : qs = [] := length_eq_zero_iff.1 (by simpa using hll.symm)
   subst this
   simp
  ·rw [concat_eq_append] at lr ok hll ⊢
   obtain ⟨qp, q, rfl, fr, hqp⟩ := last_split lr
   rw [lastN_app]
   intro x hx
   have hup := qok.up
   rw [map_append, pairwise_append] at hup
   have hfn := fr.n
   rcases mem_append.1 hx with hx | hx
   ·have := hup.2.2 _ (mem_map.2 ⟨x, hx, rfl⟩) q.n (by simp)
    omega
   ·rw [mem_singleton.1 hx]; omega
 rw [appE_len, hnx]
 simp only [Option.isNone_none, true_and]
 by_cases hfar : 1099511627776 < lastN l + 1
 ·rw [if_pos (.inr hfar)]
  refine Ct.mono (rappend_far (qs := qs) (t := t) (h := h) (hx := hx) hfar) ?_
  rintro _ H' ⟨rfl, e⟩
  exact ⟨50, h, rfl, e, ⟨fun h => absurd h (by decide), fun h => absurd h (by decide)⟩, fun _ => rfl, fun h => absurd h (by decide)⟩
 rw [if_neg (by omega)]
 by_cases hful : 64 ≤ l.length ∨ 1048576 < (dk l).used + cutR.fr.length
 ·rw [if_pos hful]
  refine Ct.mono (rappend_full qok hd hqn (by omega) (by omega) hb (by omega) (by rw [hus, ← hll]; exact hful)) ?_
  rintro _ H' ⟨rfl, e⟩
  exact ⟨51, h, rfl, e, ⟨fun h => absurd h (by decide), fun h => absurd h (by decide)⟩, fun _ => rfl, fun h => absurd h (by decide)⟩
 ·rw [if_neg hful]
  simp only [not_or, Nat.not_le, Nat.not_lt] at hful
  refine Ct.mono (rappend_new qok ht0 (by omega) hd hqn (by omega) (by omega) (by omega) hb (by rw [hus]; omega)) ?_
  rintro _ H' ⟨h', rfl, e, hd'⟩
  exact ⟨0, h', rfl, e, ⟨fun _ => rfl, fun _ => rfl⟩, fun h => absurd rfl h, fun _ => hd'⟩
set_option maxHeartbeats 2000000 in
theorem vcut_ct {l : List Lf} (ok : LOk l) {d : Nat} {h : Hp} {T : Int} (hd : RD l d h T) (hT : T ≤ 274877906944) {w : Nat} {torn : Int} :
  Ct prog 101 [.pointer (some ⟨w, 0, none⟩)] [VBk w d (lastN l) torn, h] (fun res H' => ∃ h', res = .int .i64 (lcut l).2 ∧ H' = [VBk w d (lastN (lcut l).1) torn, h'] ∧ RD (lcut l).1 d h' (T + 243)) := by
 have hrp := orec_ct cutR (by decide)
 rw [cutR_code] at hrp
 have hle := (Rec.good cutR_code).fr_le
 have hrg := lastN_range ok
 obtain ⟨qs, t, lr, ht, hd⟩ := hd
 have ht0 := lr.t0
 refine Ct.mk' func101 rfl rfl rfl (fun g R => ?_)
 try simp only [ca]
 simp only [na]
 try refine run ?_
 refine WX.call rfl hrp rfl ?_
 rintro _ _ ⟨u2, h2, rfl, rfl, hs2⟩
 have hap := vapp_cut ok lr (by omega) hd hs2.rs
 simp only [ca, na]
 try refine run ?_
 refine W.mix (List.replicate 10 true ++ [false, true]) [VBk w d (lastN l) torn] Tryz.mix (by kernel_rfl) ?_
 try refine run ?_
 refine WX.call rfl hap rfl ?_
 rintro _ _ ⟨e, y, rfl, rfl, hee, hbad, hgood⟩
 simp only [ca, na]
 unfold lcut
 by_cases hE : (dk l).appE (lastN l + 1) cutR.fr.length = 0
 ·rw [if_neg (fun hn => hn hE)]
  have he0 := hee.2 hE
  subst he0
  have hd1 := hgood rfl
  obtain ⟨okn, -⟩ := lcut_new ok hE
  have lrn := LR.new lr (lastN l + 1) cutR
  have qokn := lrn.q okn.toLUp
  have hll := qokn.len
  rw [length_append, length_singleton] at hll
  have hxq : (qs ++ [(⟨lastN l + 1, cutR.fr, 0, tms t cutR.fr.length⟩ : RfQ)])[qs.length]? = some ⟨lastN l + 1, cutR.fr, 0, tms t cutR.fr.length⟩ := List.getElem?_concat_length
  have hsy := rsync_ct qokn hd1 hxq
  rw [set_last] at hsy
  try refine run ?_
  refine W.mix (List.replicate 8 true) [VBk w d (lastN l + 1) torn] Tryz.mix (by kernel_rfl) ?_
  try refine run ?_
  refine WX.call rfl hsy rfl ?_
  rintro _ _ ⟨y2, rfl, rfl, hd2⟩
  have hfc := rfiles_ct hd2 (by rw [length_map, length_append, length_singleton]; omega)
  generalize hx : RfQ.syn ⟨lastN l + 1, cutR.fr, 0, tms t cutR.fr.length⟩ = x at *
  have hxn : x.n = lastN l + 1 := by rw [← hx]; rfl
  have hnm : ((qs ++ [x]).map RfQ.pl).map (·.n) = qs.map (·.n) ++ [lastN l + 1] := by rw [map_map, map_append]; show qs.map (·.n) ++ [x.n] = _; rw [hxn]
  rw [hnm] at hfc
  have hnl : (qs.map (·.n) ++ [lastN l + 1]).length = qs.length + 1 := by simp
  have qokx : QOk (qs ++ [x]) := by
   have := syS_ok qokn (qs.length + 1)
   have e2 : syS (qs ++ [(⟨lastN l + 1, cutR.fr, 0, tms t cutR.fr.length⟩ : RfQ)]) (qs.length + 1) = qs.map RfQ.syn ++ [x] := by
    unfold syS
    rw [take_of_length_le (by simp), drop_eq_nil_of_le (by simp), append_nil, map_append, ← hx]; rfl
   rw [e2] at this
   refine ⟨?_, fun q hq => ?_, ?_, ?_⟩
   ·have h3 := this.up
    rw [map_append, map_map] at h3
    rw [map_append]
    exact h3
   ·rcases mem_append.1 hq with hq | hq
    ·exact qokn.ok q (mem_append_left _ hq)
    ·exact this.ok q (mem_append_right _ hq)
   ·have h3 := this.used
    rw [map_append, map_map] at h3
    rw [map_append]
    exact h3
   ·have h3 := this.len
    rw [length_append, length_map] at h3
    rw [length_append]; exact h3
  simp only [ca, na]
  try refine run ?_
  refine WX.call rfl hfc rfl ?_
  rintro u3 _ ⟨hn, rfl, hs3⟩
  have hr3 := hs3.rs
  simp only [ca, na]
  try refine run ?_
  refine W.loop (α := Nat × Hp) (fun z => z.1 ≤ qs.length + 1 ∧ IsRk ((qs.drop z.1 ++ [x]).map RfQ.pl) (t + cutR.fr.length) d z.2) (fun z => [(0, .pointer (some ⟨w, 0, none⟩)), (5, u3), (6, .int .i64 (z.1 : Int))])
   (fun z => [VBk w d (lastN l + 1) torn, z.2, hn, R]) (fun z => qs.length + 1 - z.1) (0, y2) ⟨Nat.zero_le _, hd2⟩ (by repeat (first | exact Fsub.nil | refine Fsub.cons rfl ?_)) (Hsub.of_picks inferInstance) ?_
  rintro ⟨i, z⟩ ⟨hi, hdi⟩
  simp only [] at hi hdi ⊢
  by_cases hil : i < qs.length
  ·obtain ⟨q, hq⟩ : ∃ q, qs[i]? = some q := ⟨_, List.getElem?_eq_getElem hil⟩
   have hqn : (qs.map (·.n) ++ [lastN l + 1])[i]? = some q.n := by rw [List.getElem?_append_left (by rw [length_map]; exact hil), List.getElem?_map, hq]; rfl
   have hdr : qs.drop i = q :: qs.drop (i + 1) := by rw [drop_eq_getElem_cons hil, (List.getElem?_eq_some_iff.1 hq).2]
   have hqlt : q.n < lastN l + 1 := by
    have hup := qokx.up
    rw [map_append, pairwise_append] at hup
    have := hup.2.2 q.n (mem_map.2 ⟨q, mem_of_getElem? hq, rfl⟩) x.n (by simp)
    omega
   have qoki : QOk (qs.drop i ++ [x]) := by
    rw [← take_append_drop i qs, append_assoc] at qokx
    exact qokx.suf
   have hrm := rremove_ct qoki hdi (k := 0) (q := q) (by rw [hdr]; rfl)
   rw [show (qs.drop i ++ [x]).eraseIdx 0 = qs.drop (i + 1) ++ [x] by rw [hdr]; rfl] at hrm
   try refine run ?_
   refine W.quiet Tryz.mix (by kernel_rfl) ?_
   try refine run ?_
   refine W.mix (List.replicate 8 true) [VBk w d (lastN l + 1) torn, hn] Tryz.mix (by kernel_rfl) ?_
   try refine run ?_
   refine WX.call rfl hrm rfl ?_
   rintro _ _ ⟨z', rfl, rfl, hdz⟩
   simp only [ca, na]
   try refine run ?_
   exact D.rd (i + 1, z') ⟨by simp only []; omega, hdz⟩ (by simp only []; omega)
  ·by_cases hie : i = qs.length
   ·subst hie
    have hqn : (qs.map (·.n) ++ [lastN l + 1])[qs.length]? = some (lastN l + 1) := by
     have := List.getElem?_concat_length (l := qs.map (·.n)) (a := lastN l + 1)
     rwa [length_map] at this
    have hdz : IsRk ((qs.drop (qs.length + 1) ++ [x]).map RfQ.pl) (t + cutR.fr.length) d z := by
     rw [drop_eq_nil_of_le (by omega)]
     rw [drop_length] at hdi
     exact hdi
    try refine run ?_
    refine W.quiet Tryz.mix (by kernel_rfl) ?_
    try refine run ?_
    exact D.rd (qs.length + 1, z) ⟨by simp only []; omega, hdz⟩ (by simp only []; omega)
   ·obtain rfl : i = qs.length + 1 := by omega
    rw [drop_eq_nil_of_le (by omega), nil_append] at hdi
    try refine run ?_
    refine D.fin1 [VBk w d (lastN l + 1) torn, z] _ rfl rfl ⟨z, rfl, rfl, [x], t + cutR.fr.length, ⟨.cons ⟨hxn, ?_, ?_, ?_⟩ .nil, ?_, ?_, by omega⟩, by omega, hdi⟩
    ·rw [← hx]; show cutR.fr = _; rw [bytes_one]
    ·rw [← hx]; show cutR.fr.length = _; unfold Lf.s7; rw [show [cutR].take 1 = [cutR] from rfl, bytes_one]
    ·rw [← hx]; show cutR.fr.length + 0 = cutR.fr.length; omega
    ·rw [allT_one, ← hx]; exact .nil
    ·rw [allT_one, ← hx]; intro a ha; cases ha
 ·rw [if_pos hE]
  have he0 : ¬ e = 0 := fun h0 => hE (hee.1 h0)
  have := hbad he0
  subst this
  try refine run ?_
  exact D.fin1 [VBk w d (lastN l) torn, y] _ rfl rfl ⟨y, rfl, rfl, qs, t, lr, by omega, hd⟩
end Go.Proofs.YtejfahjgfedliaaGreat

namespace Go.Proofs.YtejfahjgfedliaaGreat
open Go Go.Sl List
theorem cnt_cons (y : Int) (t : List Int) (m : Int) : cnt (y :: t) m = (if y ≤ m then 1 else 0) + cnt t m := by
 unfold cnt
 by_cases h : y ≤ m
 ·rw [if_pos h, filter_cons_of_pos (by simpa using h), length_cons]; omega
 ·rw [if_neg h, filter_cons_of_neg (by simpa using h)]; omega
theorem cnt_app (a b : List Int) (m : Int) : cnt (a ++ b) m = cnt a m + cnt b m := by unfold cnt; rw [filter_append, length_append]
theorem tw_cnt {m : Int} : ∀ {l : List Int}, l.Pairwise (· < ·) → (l.takeWhile fun x => decide (x ≤ m)).length = cnt l m
 | [], _ => rfl
 | y :: t, h => by
  rw [pairwise_cons] at h
  rw [cnt_cons]
  by_cases hy : y ≤ m
  ·rw [if_pos hy, takeWhile_cons_of_pos (by simpa using hy), length_cons, tw_cnt h.2]; omega
  ·rw [if_neg hy, takeWhile_cons_of_neg (by simpa using hy), cnt_none (fun x hx => by have := h.1 x hx; omega)]; rfl
theorem cnt_step {m : Int} : ∀ {l : List Int}, l.Pairwise (· < ·) → cnt l (m + 1) ≤ cnt l m + 1
 | [], _ => by simp [cnt]
 | y :: t, h => by
  rw [pairwise_cons] at h
  rw [cnt_cons, cnt_cons]
  have ih := cnt_step (m := m) h.2
  by_cases h1 : y ≤ m
  ·rw [if_pos h1, if_pos (by omega)]; omega
  ·rw [if_neg h1]
   have h2 : cnt t (m + 1) = 0 := cnt_none (fun x hx => by have := h.1 x hx; omega)
   split <;> omega
theorem last_cnt {qs : List RfQ} {t : Int} {k : Nat} {last : Int} (h : LastOk qs t k last) (hi : (allT qs).Pairwise (· < ·)) (hp : ∀ x ∈ allT qs, 0 < x ∧ x ≤ t) : cnt (allT qs) last = min k (allT qs).length := by
 obtain ⟨h0, h1, h2⟩ := h
 rcases Nat.lt_or_ge k (allT qs).length with hk | hk
 ·obtain ⟨h3, h4⟩ := h2 hk
  have h5 := cnt_step (m := last) hi
  omega
 ·rw [h1 hk, cnt_all (fun x hx => (hp x hx).2)]; omega
def fq (f : FileP) : RfQ := ⟨f.n, f.b, f.s, []⟩
theorem crash_eq {last : Int} : ∀ {l : List Lf} {qs : List RfQ} {k : Nat}, All2 FR l qs → (allT qs).Pairwise (· < ·) → cnt (allT qs) last = min k (allT qs).length → (qs.map fun q => q.crash last) = (crashL l k).map fq := by
 intro l qs k h
 induction h generalizing k with
 | nil => intro _ _; rfl
 | @cons f q l qs hf _ ih =>
  intro hi hc
  have e : allT (q :: qs) = q.ts ++ allT qs := rfl
  rw [e] at hi hc
  rw [pairwise_append] at hi
  rw [cnt_app, length_append] at hc
  have htw := tw_cnt (m := last) hi.1
  have hle := cnt_le q.ts last
  have hle2 := cnt_le (allT qs) last
  have hz : cnt q.ts last < q.ts.length → cnt (allT qs) last = 0 := fun hlt => by
   refine cnt_none fun x hx => ?_
   have hx0 : ∃ y ∈ q.ts, last < y := by
    refine Classical.byContradiction fun hn => ?_
    have : ∀ y ∈ q.ts, y ≤ last := fun y hy => Classical.byContradiction fun h2 => hn ⟨y, hy, by omega⟩
    rw [cnt_all this] at hlt
    omega
   obtain ⟨y, hy, hly⟩ := hx0
   have := hi.2.2 y hy x hx
   omega
  have hA : cnt q.ts last = min k q.ts.length := by
   by_cases hlt : cnt q.ts last < q.ts.length
   ·have := hz hlt; omega
   ·omega
  have hB : cnt (allT qs) last = min (k - min k q.ts.length) (allT qs).length := by
   by_cases hlt : cnt q.ts last < q.ts.length
   ·have := hz hlt; omega
   ·omega
  have hfe := hf.e
  have hL : (bytes (f.rs.drop f.k)).length = q.ts.length := by
   have h1 := congrArg List.length (bytes_take_drop f.rs f.k)
   rw [length_append] at h1
   have h2 := hf.s
   rw [hf.b] at hfe
   unfold Lf.s7 at h2
   omega
  rw [map_cons]
  unfold crashL
  rw [map_cons, hL, ih hi.2.1 hB]
  congr 1
  unfold RfQ.crash RfQ.cut RfQ.kp RfQ.tw fq
  rw [htw, hA, hf.n, hf.b, hf.s]
  rfl
end Go.Proofs.YtejfahjgfedliaaGreat
