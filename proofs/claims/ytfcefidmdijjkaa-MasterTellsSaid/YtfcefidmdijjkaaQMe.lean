/-
  Texts of one road, one behind the other.
-/
import Derived.Test.YtfcefidmdijjkaaQMa
import Derived.ProofKit
import Derived.SizedLaws
import Derived.ChangeCalls
import Derived.Deep.Slices
import Derived.OpenShut
import Derived.Test.YtfcefidmdijjkaaQMb
import Derived.Test.YtfcefidmdijjkaaRows
import Derived.Test.YtfcefidmdijjkaaQMc
import Derived.Test.YtfcefidmdijjkaaQMd
/-
  From the form of a law's statement to a contract: what the arguments read as; that nothing that was there has turned.
-/
set_option linter.unusedVariables false
set_option linter.unusedSimpArgs false
namespace Go.Sl
open Go

/-- All that the world holds, block by block. -/
def initHp (w : World) : Hp := w.heap.toList.zipIdx.map fun x => (x.2, x.1)
theorem initHp_mem {w : World} {b : Nat} {o : Obj} : (b, o) ∈ initHp w ↔ w.heap[b]? = some o := by
  unfold initHp
  rw [List.mem_map]
  constructor
  · rintro ⟨⟨o', i⟩, hm, he⟩
    cases he
    have := List.mem_zipIdx hm
    simp at this
    obtain ⟨h1, h2⟩ := this
    rw [Array.getElem?_eq_getElem h1, h2]
  · intro h
    refine ⟨(o, b), ?_, rfl⟩
    rw [List.mem_zipIdx_iff_getElem?]
    simpa using h
theorem initHp_on (w : World) : on w (initHp w) w := by
  refine ⟨Amb.refl w, ?_, fun b o h => initHp_mem.1 h⟩
  unfold initHp
  rw [List.map_map]
  have : (Prod.fst ∘ fun x : Obj × Nat => (x.2, x.1)) = Prod.snd := by funext x; rfl
  rw [this, List.zipIdx_map_snd]
  exact List.nodup_range'
theorem initHp_below {w w' : World} (h : on w (initHp w) w') : RowKit.Below w.heap.size w w' := by
  refine ⟨h.1.os, h.1.tape, h.1.output, h.1.size, fun k hk => ?_⟩
  have := h.2.2 k _ (initHp_mem.2 (Array.getElem?_eq_getElem hk))
  rw [this, Array.getElem?_eq_getElem hk]
theorem initHp_cell {w : World} {p : Addr} {u : Value} (h : w.cell? p = some u) {g w' : World} (ho : on g (initHp w) w') : w'.cell? p = some u := by
  unfold World.cell? at h ⊢
  cases hb : w.heap[p.block]? with
  | none => simp [hb] at h
  | some o =>
    rw [ho.2.2 _ _ (initHp_mem.2 hb)]
    rwa [hb] at h

/-- In the world w the value reads as these elements. -/
def RsW {α : Type} [Enc α] (w : World) (xs : List α) (v : Value) : Prop :=
  ∃ a c, v = .slice a xs.length c ∧ xs.length ≤ c ∧ ∀ k y, xs[k]? = some y → ∃ b off, a = some ⟨b, off, none⟩ ∧ ∀ j u, (Enc.enc y)[j]? = some u → w.cell? ⟨b, off + (k * Enc.sz α + j), none⟩ = some u
theorem RsW.rs {α : Type} [Enc α] {w : World} {xs : List α} {v : Value} (h : RsW w xs v) : Rs xs v (initHp w) := by
  obtain ⟨a, c, e, le, f⟩ := h
  refine ⟨a, c, e, le, fun k y hk => ?_⟩
  obtain ⟨b, off, e1, e2⟩ := f k y hk
  exact ⟨b, off, e1, fun j u hu g w' ho => initHp_cell (e2 j u hu) ho⟩

/-- What reads at all at the type t is an α, of which I holds. -/
def RdOk (P : Program) (t : Nat) (α : Type) [Enc α] (I : World → α → Prop) : Prop :=
  ∀ (H : Type) (enc : TypeId × Value → H) (w : World) (fuel : Nat) (cs : List Value) (x : DataW H × List MemPlace), DataW.trod enc P w 0 (fun _ => true) true fuel t cs = some x → (∀ l ∈ x.1.weights P t, l ≤ reachBytes) → ∃ y : α, cs = Enc.enc y ∧ I w y

def I64 (n : Int) : Prop := -9223372036854775808 ≤ n ∧ n ≤ 9223372036854775807
theorem rd_int {P : Program} {t : Nat} [ht : TU P t (.int .i64)] : RdOk P t Int (fun _ n => I64 n) := by
  intro H enc w fuel cs x h _
  obtain ⟨n, rfl, _, hw⟩ := DataW.trod_int ht.h h
  refine ⟨n, rfl, ?_⟩
  simp [Lit.wf, IntKind.min, IntKind.max, IntKind.signed, IntKind.bits] at hw
  exact hw
theorem rd_bool {P : Program} {t : Nat} [ht : TU P t .bool] : RdOk P t Bool (fun _ _ => True) := by
  intro H enc w fuel cs x h _
  obtain ⟨b, rfl, _⟩ := DataW.trod_bool ht.h h
  exact ⟨b, rfl, trivial⟩

theorem weights_slice {H : Type} {P : Program} {t e : Nat} [ht : TU P t (.slice e)] {elems spare : List (DataW H)} (h : ∀ l ∈ (DataW.slice elems spare).weights P t, l ≤ reachBytes) :
    elems.length * P.bytesOf e ≤ reachBytes ∧ ∀ d ∈ elems, ∀ l ∈ d.weights P e, l ≤ reachBytes := by
  simp only [DataW.weights, ht.h] at h
  constructor
  · have := h _ (List.mem_cons_self)
    rw [Nat.add_mul] at this; omega
  · intro d hd l hl
    refine h l (List.mem_cons_of_mem _ (List.mem_append_left _ ?_))
    clear h
    induction elems with
    | nil => cases hd
    | cons y r ih =>
      simp only [DataW.weightsAll]
      rcases List.mem_cons.1 hd with rfl | hd
      · exact List.mem_append_left _ hl
      · exact List.mem_append_right _ (ih hd)
theorem weights_each {H : Type} {P : Program} : ∀ {ts : List TypeId} {ds : List (DataW H)} {i : Nat} {t : TypeId} {d : DataW H}, (∀ l ∈ DataW.weightsEach P ts ds, l ≤ reachBytes) → ts[i]? = some t → ds[i]? = some d → ∀ l ∈ d.weights P t, l ≤ reachBytes
  | t :: ts, d :: ds, 0, _, _, h, h1, h2, l, hl => by
    cases h1; cases h2
    exact h l (by simp only [DataW.weightsEach]; exact List.mem_append_left _ hl)
  | t :: ts, d :: ds, i + 1, _, _, h, h1, h2, l, hl => weights_each (ts := ts) (ds := ds) (i := i) (fun l hl => h l (by simp only [DataW.weightsEach]; exact List.mem_append_right _ hl)) (by simpa using h1) (by simpa using h2) l hl
  | [], _, _, _, _, _, h1, _, _, _ => by cases h1
  | _ :: _, [], _, _, _, _, _, h2, _, _ => by cases h2

theorem rd_slice {P : Program} {t e : Nat} {α : Type} [E : Enc α] {I : World → α → Prop} [ht : TU P t (.slice e)] (hsz : P.cellsOf e = Enc.sz α) (he : RdOk P e α I) {H : Type} {enc : TypeId × Value → H} {w : World} {fuel : Nat} {v : Value} {x : DataW H × List MemPlace}
    (h : DataW.trod enc P w 0 (fun _ => true) true fuel t [v] = some x) (hwt : ∀ l ∈ x.1.weights P t, l ≤ reachBytes) :
    ∃ xs : List α, RsW w xs v ∧ (∀ y ∈ xs, I w y) ∧ xs.length * P.bytesOf e ≤ reachBytes := by
  rcases Deep.open_slice ht.h h with ⟨hc, rfl⟩ | ⟨a, len, cap, m, n, D, Pl, hc, _, hl, hm, hmm, rfl, hx⟩
  · simp only [List.cons.injEq, and_true] at hc
    subst hc
    exact ⟨[], ⟨none, 0, rfl, Nat.le_refl _, (fun k y hk => by simp at hk)⟩, (fun y hy => by cases hy), by simp⟩
  · simp only [List.cons.injEq, and_true] at hc
    subst hc
    simp only [if_true] at hmm
    obtain ⟨w1, w2⟩ := weights_slice hwt
    have key : ∀ i, i < len → ∃ y : α, w.cells? 0 (a.add (i * P.cellsOf e)) (P.cellsOf e) = some (Enc.enc y) ∧ I w y := fun i hi => by
      obtain ⟨cs', h1, h2⟩ := hx i (by omega)
      obtain ⟨y, rfl, hy⟩ := he H enc w n cs' _ h2 (w2 (D i) (List.mem_map.2 ⟨i, List.mem_range.2 hi, rfl⟩))
      exact ⟨y, h1, hy⟩
    have : ∃ xs : List α, xs.length = len ∧ ∀ i y, xs[i]? = some y → w.cells? 0 (a.add (i * P.cellsOf e)) (P.cellsOf e) = some (Enc.enc y) ∧ I w y := by
      clear w1 w2 hx hwt h hl hm hmm
      induction len with
      | zero => exact ⟨[], rfl, fun i y h => by simp at h⟩
      | succ k ih =>
        obtain ⟨xs, h1, h2⟩ := ih (fun i hi => key i (by omega))
        obtain ⟨y, h3⟩ := key k (by omega)
        refine ⟨xs ++ [y], by simp [h1], fun i z hz => ?_⟩
        rcases Nat.lt_or_ge i k with hlt | hge
        · exact h2 i z (by rwa [List.getElem?_append_left (by omega)] at hz)
        · rw [List.getElem?_append_right (by omega)] at hz
          have hi : i - xs.length = 0 := by
            rcases Nat.eq_zero_or_pos (i - xs.length) with h | h
            · exact h
            · rw [List.getElem?_eq_none (by simp; omega)] at hz; cases hz
          rw [hi] at hz
          cases hz
          rw [show i = k by omega]
          exact h3
    obtain ⟨xs, rfl, h2⟩ := this
    refine ⟨xs, ⟨some a, cap, rfl, hl, fun k y hk => ?_⟩, fun y hy => ?_, ?_⟩
    · obtain ⟨h3, _⟩ := h2 k y hk
      rw [hsz] at h3
      obtain ⟨_, hlen, hcell⟩ := World.cells?_some h3
      obtain ⟨b, off, spot⟩ := a
      have hp := Enc.pos (α := α)
      have hlt := (List.getElem?_eq_some_iff.1 hk).1
      have hspot : spot = none := by
        obtain ⟨h4, _⟩ := h2 0 xs[0] (List.getElem?_eq_getElem (by omega))
        rw [hsz] at h4
        obtain ⟨_, hlen0, hcell0⟩ := World.cells?_some h4
        have h5 := hcell0 0 hp
        rw [List.getElem?_eq_getElem (by omega)] at h5
        have := World.cell?_spot h5
        simpa [Addr.add] using this
      subst hspot
      refine ⟨b, off, rfl, fun j u hu => ?_⟩
      have hj : j < Enc.sz α := by have := (List.getElem?_eq_some_iff.1 hu).1; rwa [Enc.len] at this
      have := hcell j hj
      rw [hu, add_none, add_none] at this
      rwa [Nat.add_assoc] at this
    · obtain ⟨k, hk⟩ := List.mem_iff_getElem?.1 hy
      exact (h2 k y hk).2
    · simpa using w1

section args
variable {H : Type} {enc : TypeId × Value → H} {P : Program} {W : World} {r : Reach} {base t e : Nat} {v : Value} {d : DataW H} {p : List MemPlace}
theorem arg_int [ht : TU P t (.int .i64)] (hv : Value.okWide P W r base t v) (h : DataW.Trod enc P W 0 (fun _ => true) true t v d p) : ∃ n, v = .int .i64 n ∧ I64 n := by
  obtain ⟨x, rfl, _, _, hw⟩ := ChangeShapes.open_int ht.h hv h
  refine ⟨x, rfl, ?_⟩
  simp [Lit.wf, IntKind.min, IntKind.max, IntKind.signed, IntKind.bits] at hw
  exact hw
theorem arg_slice {α : Type} [E : Enc α] {I : World → α → Prop} [ht : TU P t (.slice e)] (hsz : P.cellsOf e = Enc.sz α) (he : RdOk P e α I) (hv : Value.okWide P W r base t v) (h : DataW.Trod enc P W 0 (fun _ => true) true t v d p)
    (hwt : ∀ l ∈ d.weights P t, l ≤ reachBytes) : ∃ xs : List α, RsW W xs v ∧ (∀ y ∈ xs, I W y) ∧ xs.length * P.bytesOf e ≤ reachBytes := by
  obtain ⟨a, len, cap, rfl⟩ := WideShapes.okWide_slice ht.h hv
  obtain ⟨fuel, hf⟩ := h
  exact rd_slice (x := (d, p)) hsz he hf hwt
end args

theorem law_calls {P : Program} {f : FuncId} {args : List Value} {W : World} (h : Ct P f args [initHp W] (fun r H' => r = .bool true ∧ H' = [initHp W])) :
    Calls P f args.toArray W fun e W' => e = .returned (.bool true) ∧ RowKit.Below W.heap.size W W' :=
  (h.calls W [] W (by simpa using initHp_on W)).mono fun e W' ⟨v, H', he, ⟨h1, h2⟩, ho⟩ => by
    subst h1; subst h2
    exact ⟨he, initHp_below (by simpa using ho)⟩

/-- ONE LAW: 'true, and the arguments read as they did', out of a run that returns true and turns nothing that was there. -/
theorem law_lifted {C : Checked} {os : Os} {f : FuncId} {fn : Func} {s : ChangeSpec} {H : Type} {enc : TypeId × Value → H} {tb : TypeId}
    (own : ownKnob C.prog.godebug = none) (started : os.Started) (noInit : C.prog.inits.idxOf? f = none) (hfn : C.prog.funcs[f]? = some fn)
    (witness : ∃ (w : World) (tape : Tape) (i : Input), w.os = os ∧ (w.forCall tape i).Shaped C.prog ∧ i.vars = [] ∧ Input.okWide C.prog (w.forCall tape i) .any w.heap.size f i ∧
      s.pre6 enc C.prog fn [] false (w.forCall tape i).memory i.args ∧ ({} : Assume).holds C.prog (lone (Frame.enter C.prog f i.args .normal) [] (w.forCall tape i)))
    (hlaid : laidOutB C.prog = true) (hpar0 : (fn.params.toList.all fun t => C.prog.readableRec t && Nat.blt t C.prog.types.size) = true)
    (hres : fn.resultTypes = #[tb]) (htb : C.prog.underlying tb = some .bool) (hvars : s.vars = [])
    (hspec : ∀ (ds : List (DataW H)), ds.length = fn.params.size → (s.fn H (ds ++ [])).results = [.lit (.bool true)] ∧ (s.fn H (ds ++ [])).args = ds ∧ (s.fn H (ds ++ [])).vars = [])
    (hrun : ∀ (W : World) (base : Nat) (args : Array Value) (ds : List (DataW H)) (p : List MemPlace), (∀ (j : Nat) t v, fn.params[j]? = some t → args[j]? = some v → Value.okWide C.prog W .any base t v) → DataW.TrodAll enc C.prog W 0 (fun _ => true) true fn.params.toList args.toList ds p →
      (∀ l ∈ DataW.weightsEach C.prog fn.params.toList ds, l ≤ reachBytes) → Calls C.prog f args W fun e W' => e = .returned (.bool true) ∧ RowKit.Below W.heap.size W W') :
    ReturnsInHanded {} C os f .any (s.pre6 enc C.prog fn [] false) (s.post enc C.prog fn false true false false) := by
  have hpar : ∀ t ∈ fn.params.toList, C.prog.readableRec t = true ∧ t < C.prog.types.size := fun t ht => by
    have := List.all_eq_true.1 hpar0 t ht
    simp only [Bool.and_eq_true] at this
    exact ⟨this.1, Nat.le_of_ble_eq_true this.2⟩
  refine returnsInHanded_of_change_sized own started noInit hfn witness ?_
  intro W base args ds gs before hval hW _ hsz _
  have hW' := hW
  obtain ⟨p, q, hA, hV, rfl, hfz, hnd⟩ := hW
  rw [hvars] at hV
  have hg : gs = [] ∧ q = [] := by
    cases gs with
    | nil => exact ⟨rfl, hV⟩
    | cons _ _ => exact hV.elim
  obtain ⟨rfl, rfl⟩ := hg
  have hvt : s.plain.varTypes C.prog = [] := by
    simp [ChangeSpec.plain, DataSpec.varTypes, hvars]
  have hwt : ∀ l ∈ DataW.weightsEach C.prog fn.params.toList ds, l ≤ reachBytes := by
    have h1 : (DataW.weightsEach C.prog (fn.params.toList ++ s.plain.varTypes C.prog) (ds ++ [])).all (· ≤ reachBytes) = true := hsz
    rw [hvt, List.append_nil, List.append_nil] at h1
    intro l hl
    simpa using List.all_eq_true.1 h1 l hl
  have hdl : ds.length = fn.params.size := by simpa using (trodAll_length hA).2
  obtain ⟨e1, e2, e3⟩ := hspec ds hdl
  refine (hrun W base args ds p hval hA hwt).mono fun e W' ⟨he, hb⟩ => ?_
  subst he
  have hargs : ∀ {ts : List TypeId} {vs : List Value} {ds : List (DataW H)} {p : List MemPlace}, (∀ t ∈ ts, C.prog.readableRec t = true ∧ t < C.prog.types.size) → DataW.TrodAll enc C.prog W 0 (fun _ => true) true ts vs ds p → (∀ x ∈ p, x.block < W.heap.size) →
      DataW.TrodAll enc C.prog W' 0 (fun b => decide (b < W.heap.size)) true ts vs ds p := by
    intro ts
    induction ts with
    | nil =>
      intro vs ds p _ h _
      cases vs <;> cases ds <;> first | exact h | exact h.elim
    | cons t ts ih =>
      intro vs ds p hp h hlt
      cases vs with
      | nil => exact h.elim
      | cons v vs =>
        cases ds with
        | nil => exact h.elim
        | cons d ds =>
          obtain ⟨p1, p2, h1, h2, rfl⟩ := h
          exact ⟨p1, p2, RowKit.Below.trod hlaid (hp t List.mem_cons_self).1 (hp t List.mem_cons_self).2 h1 hb (fun x hx => hlt x (List.mem_append_left _ hx)), ih (fun t ht => hp t (List.mem_cons_of_mem _ ht)) h2 (fun x hx => hlt x (List.mem_append_right _ hx)), rfl⟩
  have hlt : ∀ x ∈ p, x.block < W.heap.size := DataW.TrodAll.lt hA
  have hres' : fn.resultTypes.toList = [tb] := by rw [hres]
  have hres2 : fn.resultTypes.size = 1 := by rw [hres]; rfl
  refine ⟨_, rfl, ds, [], _, [], p, [], hW', ?_, ?_, ?_, hb.frame _, fun h => by cases h⟩
  · rw [e1, hres', hres2]
    exact ⟨[], [], RowKit.shut_bool htb true, rfl, rfl⟩
  · rw [e2]; exact hargs hpar hA hlt
  · rw [hvars, e3]; rfl
end Go.Sl

/-
  What structs among the inputs read as, field by field.
-/
set_option linter.unusedVariables false
set_option linter.unusedSimpArgs false
namespace Go.Sl
open Go

section
variable {H : Type} {enc : TypeId × Value → H} {P : Program} {w : World} {t ft i off k : Nat} {ag : Bool} {cs : List Value} {v : Value}
/-- The cells read at the type, within what can be reached. -/
def StOk {H : Type} (enc : TypeId × Value → H) (P : Program) (w : World) (t : Nat) (cs : List Value) : Prop :=
  ∃ (fuel : Nat) (x : DataW H × List MemPlace), DataW.trod enc P w 0 (fun _ => true) true fuel t cs = some x ∧ ∀ l ∈ x.1.weights P t, l ≤ reachBytes
theorem TL.cellsOf (h : TL P t k ag) : P.cellsOf t = k := by
  obtain ⟨s, _⟩ := h
  unfold Program.cellsOf
  rw [s]; rfl
theorem StOk.len [ft' : TFt P t i off ft] [tl : TL P t k ag] (h : StOk enc P w t cs) : cs.length = k := by
  obtain ⟨fuel, x, hx, _⟩ := h
  obtain ⟨fs, fd, hu, _⟩ := ft'.h
  obtain ⟨xs, n, _, _, hl, _⟩ := DataW.trod_struct hu hx
  rw [hl, tl.cellsOf]
theorem StOk.field (i : Nat) [ft' : TFt P t i off ft] [tl : TL P ft k ag] (h : StOk enc P w t cs) : StOk enc P w ft ((cs.drop off).take k) := by
  obtain ⟨fuel, x, hx, hw⟩ := h
  obtain ⟨fs, fd, hu, hf, rfl, rfl⟩ := ft'.h
  obtain ⟨xs, n, _, rfl, hl, hlen, hfs⟩ := DataW.trod_struct hu hx
  have h1 := hfs i fd hf
  have hi : i < xs.length := by rw [hlen]; exact (Array.getElem?_eq_some_iff.1 hf).1
  rw [List.getElem?_eq_getElem hi, tl.cellsOf] at h1
  refine ⟨n, xs[i], h1, ?_⟩
  simp only [DataW.weights, hu] at hw
  exact weights_each hw (i := i) (by rw [List.getElem?_map, Array.getElem?_toList, hf]; rfl) (by rw [List.getElem?_map, List.getElem?_eq_getElem hi]; rfl)
theorem StOk.rd {α : Type} [Enc α] {I : World → α → Prop} (hr : RdOk P t α I) (h : StOk enc P w t cs) : ∃ y : α, cs = Enc.enc y ∧ I w y := by
  obtain ⟨fuel, x, hx, hw⟩ := h
  exact hr H enc w fuel cs x hx hw
theorem StOk.int [ht : TU P t (.int .i64)] (h : StOk enc P w t cs) : ∃ n, cs = [.int .i64 n] ∧ I64 n := h.rd rd_int
theorem StOk.bool [ht : TU P t .bool] (h : StOk enc P w t cs) : ∃ b, cs = [.bool b] := let ⟨b, h1, _⟩ := h.rd rd_bool; ⟨b, h1⟩
theorem StOk.slice {e : Nat} {α : Type} [E : Enc α] {I : World → α → Prop} [ht : TU P t (.slice e)] (hsz : P.cellsOf e = Enc.sz α) (he : RdOk P e α I) (h : StOk enc P w t [v]) :
    ∃ xs : List α, RsW w xs v ∧ (∀ y ∈ xs, I w y) ∧ xs.length * P.bytesOf e ≤ reachBytes := by
  obtain ⟨fuel, x, hx, hw⟩ := h
  exact rd_slice hsz he hx hw
theorem rd_of {α : Type} [Enc α] {I : World → α → Prop} (h : ∀ (H : Type) (enc : TypeId × Value → H) (w : World) (cs : List Value), StOk enc P w t cs → ∃ y : α, cs = Enc.enc y ∧ I w y) : RdOk P t α I :=
  fun H enc w fuel cs x hx hw => h H enc w cs ⟨fuel, x, hx, hw⟩
theorem rd_u8 [ht : TU P t (.int .u8)] : RdOk P t UInt8 (fun _ _ => True) := by
  intro H enc w fuel cs x h _
  obtain ⟨n, rfl, _, hw⟩ := DataW.trod_int ht.h h
  simp [Lit.wf, IntKind.min, IntKind.max, IntKind.signed, IntKind.bits] at hw
  refine ⟨UInt8.ofNat n.toNat, ?_, trivial⟩
  have h1 : n.toNat < 256 := by omega
  show _ = [Value.int .u8 ((UInt8.ofNat n.toNat).toNat : Int)]
  rw [UInt8.toNat_ofNat', Nat.mod_eq_of_lt (by simpa using h1), Int.toNat_of_nonneg hw.1]
end
section args
variable {H : Type} {enc : TypeId × Value → H} {P : Program} {W : World} {r : Reach} {base t i off ft : Nat} {v : Value} {d : DataW H} {p : List MemPlace}
theorem arg_struct {α : Type} [E : Enc α] {I : World → α → Prop} (i : Nat) [tf : TFt P t i off ft] (he : RdOk P t α I) (hv : Value.okWide P W r base t v) (h : DataW.Trod enc P W 0 (fun _ => true) true t v d p)
    (hwt : ∀ l ∈ d.weights P t, l ≤ reachBytes) : ∃ y : α, v = .agg (Enc.enc y).toArray ∧ I W y := by
  obtain ⟨fs, fd, hu, _⟩ := tf.h
  obtain ⟨cs, rfl, _⟩ := WideShapes.okWide_struct hu hv
  obtain ⟨fuel, hf⟩ := h
  obtain ⟨y, h1, h2⟩ := he H enc W fuel _ _ hf hwt
  exact ⟨y, by rw [← h1]; rfl, h2⟩
end args
end Go.Sl

/-
  What strings and arrays among the inputs read as.
-/
set_option linter.unusedVariables false
set_option linter.unusedSimpArgs false
namespace Go.Sl
open Go
section
variable {H : Type} {enc : TypeId × Value → H} {P : Program} {w : World} {t e n k : Nat} {ag : Bool} {cs : List Value} {v : Value}
theorem StOk.string [ht : TU P t .string] (h : StOk enc P w t cs) : ∃ s : ByteArray, cs = [.string s] ∧ s.data.toList.length ≤ reachBytes := by
  obtain ⟨fuel, x, hx, hw⟩ := h
  obtain ⟨s, rfl, rfl, _⟩ := DataW.trod_string ht.h hx
  refine ⟨s, rfl, hw _ ?_⟩
  simp [DataW.weights]
theorem weights_all {ds : List (DataW H)} (h : ∀ l ∈ DataW.weightsAll P e ds, l ≤ reachBytes) : ∀ d ∈ ds, ∀ l ∈ d.weights P e, l ≤ reachBytes := by
  induction ds with
  | nil => intro d hd; cases hd
  | cons y r ih =>
    intro d hd l hl
    simp only [DataW.weightsAll] at h
    rcases List.mem_cons.1 hd with rfl | hd
    · exact h l (List.mem_append_left _ hl)
    · exact ih (fun l hl => h l (List.mem_append_right _ hl)) d hd l hl
theorem StOk.lenA [ht : TU P t (.array n e)] [tl : TL P t k ag] (h : StOk enc P w t cs) : cs.length = k := by
  obtain ⟨fuel, x, hx, _⟩ := h
  obtain ⟨xs, m, _, _, hl, _⟩ := DataW.trod_array ht.h hx
  rw [hl, tl.cellsOf]
theorem StOk.elem (i : Nat) [ht : TU P t (.array n e)] [tl : TL P e k ag] (h : StOk enc P w t cs) (hi : i < n) : StOk enc P w e ((cs.drop (i * k)).take k) := by
  obtain ⟨fuel, x, hx, hw⟩ := h
  obtain ⟨xs, m, _, rfl, hl, hlen, hfs⟩ := DataW.trod_array ht.h hx
  have h1 := hfs i hi
  have hi' : i < xs.length := by omega
  rw [List.getElem?_eq_getElem hi', tl.cellsOf] at h1
  refine ⟨m, xs[i], h1, ?_⟩
  simp only [DataW.weights, ht.h] at hw
  exact weights_all hw _ (List.mem_map.2 ⟨_, List.getElem_mem hi', rfl⟩)
end
end Go.Sl

/-
  Two facts on the whole program that each statement's end asks.
-/
namespace Go.Proofs.Ytfcefidmdijjkaa
open Go Go.Sl

theorem Try.own : ownKnob Try.prog.godebug = none := by kernel_rfl
theorem Try.laidOut : laidOutB Try.prog = true := by kernel_rfl
end Go.Proofs.Ytfcefidmdijjkaa

/-
  Chains in plain Lean: what First, With, Without, Grown make of a chain that is right.
-/
set_option linter.unusedVariables false
set_option linter.unusedSimpArgs false
namespace Go.Proofs.Ytfcefidmdijjkaa
open Go Go.Sl

/-- A right chain: its epoch, its full members, its learner. -/
structure Ch where
  ep : Int
  ms : List Mem
  ln : Option Mem
  deriving DecidableEq
def Ch.all (c : Ch) : List Mem := c.ms ++ c.ln.toList
def Ch.cfg (c : Ch) : Cfg := ⟨c.ep, (c.ms.length : Int), c.ms.getD 0 Mem.z, c.ms.getD 1 Mem.z, c.ms.getD 2 Mem.z, c.ms.getD 3 Mem.z, c.ln.isSome, c.ln.getD Mem.z⟩
structure ChOk (c : Ch) : Prop where
  e1 : 1 ≤ c.ep
  e2 : c.ep ≤ 1099511627776
  l1 : 1 ≤ c.ms.length
  up : (c.all.map (·.nd)).Pairwise (· ≠ ·)
  rg : ∀ m ∈ c.all, 0 ≤ m.nd ∧ m.nd < 4 ∧ 1 ≤ m.sn ∧ m.sn ≤ c.ep
/-- Not more than four different numbers are below four. -/
theorem four : ∀ {l : List Int}, l.Pairwise (· ≠ ·) → (∀ x ∈ l, 0 ≤ x ∧ x < 4) → l.length ≤ 4
  | [], _, _ => by decide
  | [_], _, _ => by simp
  | [_, _], _, _ => by simp
  | [_, _, _], _, _ => by simp
  | [_, _, _, _], _, _ => by simp
  | a :: b :: c :: d :: e :: t, h, k => by
    have ha := k a (by simp); have hb := k b (by simp); have hc := k c (by simp); have hd := k d (by simp); have he := k e (by simp)
    simp only [List.pairwise_cons, List.mem_cons, forall_eq_or_imp] at h
    obtain ⟨⟨h1, h2, h3, h4, _⟩, ⟨h5, h6, h7, _⟩, ⟨h8, h9, _⟩, ⟨h10, _⟩, _⟩ := h
    exfalso; omega
theorem ChOk.l4 {c : Ch} (h : ChOk c) : c.ms.length + c.ln.toList.length ≤ 4 := by
  have := four h.up (fun x hx => by
    obtain ⟨m, hm, rfl⟩ := List.mem_map.1 hx
    exact ⟨(h.rg m hm).1, (h.rg m hm).2.1⟩)
  rw [List.length_map] at this
  unfold Ch.all at this
  rw [List.length_append] at this
  exact this
def firstCh (n : Nat) : Ch := ⟨1, (List.range n).map fun (i : Nat) => ⟨(i : Int), 1⟩, none⟩
theorem first_ok {n : Nat} (h1 : 1 ≤ n) (h2 : n ≤ 4) : ChOk (firstCh n) := by
  refine ⟨Int.le_refl 1, by show (1 : Int) ≤ 1099511627776; decide, by simpa [firstCh] using h1, ?_, ?_⟩
  · match n, h1, h2 with
    | 1, _, _ => decide
    | 2, _, _ => decide
    | 3, _, _ => decide
    | 4, _, _ => decide
  · match n, h1, h2 with
    | 1, _, _ => decide
    | 2, _, _ => decide
    | 3, _, _ => decide
    | 4, _, _ => decide
def Ch.has (c : Ch) (n : Int) : Bool := c.ms.any fun m => m.nd == n
theorem Ch.has_iff {c : Ch} {n : Int} : c.has n = true ↔ ∃ m ∈ c.ms, m.nd = n := by simp [Ch.has]
/-- With a learner. -/
def addL (c : Ch) (n : Int) : Option Ch := if c.ep = 1099511627776 ∨ c.ln.isSome = true ∨ n < 0 ∨ 4 ≤ n ∨ c.has n = true then none else some ⟨c.ep + 1, c.ms, some ⟨n, c.ep + 1⟩⟩
/-- Without a member. -/
def dropL (c : Ch) (n : Int) : Option Ch :=
  if c.ep = 1099511627776 then none
  else if c.ln.any (fun m => m.nd == n) = true then some ⟨c.ep + 1, c.ms, none⟩
  else if c.has n = false ∨ c.ms.length = 1 then none
  else some ⟨c.ep + 1, c.ms.filter fun m => m.nd != n, c.ln⟩
/-- The learner is full. -/
def growL (c : Ch) : Option Ch := if c.ep = 1099511627776 then none else match c.ln with
  | none => none
  | some m => some ⟨c.ep + 1, c.ms ++ [m], none⟩
theorem ChOk.addL {c c' : Ch} {n : Int} (h : ChOk c) (e : addL c n = some c') : ChOk c' := by
  unfold Go.Proofs.Ytfcefidmdijjkaa.addL at e
  split at e
  · cases e
  · rename_i hn
    simp only [not_or] at hn
    obtain ⟨n1, n2, n3, n4, n5⟩ := hn
    cases e
    have e1 := h.e1; have e2 := h.e2
    have hl : c.ln = none := by cases hl : c.ln with | none => rfl | some m => simp [hl] at n2
    have ha : c.all = c.ms := by simp [Ch.all, hl]
    refine ⟨by simp only []; omega, by simp only []; omega, h.l1, ?_, ?_⟩
    · have := h.up
      rw [ha] at this
      simp only [Ch.all, Option.toList, List.map_append, List.map_cons, List.map_nil]
      refine List.pairwise_append.2 ⟨this, List.pairwise_singleton .., fun x hx y hy => ?_⟩
      rw [List.mem_singleton.1 hy]
      obtain ⟨m, hm, rfl⟩ := List.mem_map.1 hx
      intro he
      exact n5 (Ch.has_iff.2 ⟨m, hm, he⟩)
    · intro m hm
      simp only [Ch.all, Option.toList] at hm
      rcases List.mem_append.1 hm with hm | hm
      · have := h.rg m (by rw [ha]; exact hm)
        simp only []; omega
      · rw [List.mem_singleton.1 hm]; simp only []; omega
theorem ChOk.growL {c c' : Ch} (h : ChOk c) (e : growL c = some c') : ChOk c' := by
  unfold Go.Proofs.Ytfcefidmdijjkaa.growL at e
  split at e
  · cases e
  · rename_i n1
    have e1 := h.e1; have e2 := h.e2
    cases hl : c.ln with
    | none => rw [hl] at e; cases e
    | some m =>
      rw [hl] at e
      cases e
      have ha : c.all = c.ms ++ [m] := by simp [Ch.all, hl]
      refine ⟨by simp only []; omega, by simp only []; omega, by simp, ?_, ?_⟩
      · have := h.up
        rw [ha] at this
        simpa [Ch.all] using this
      · intro x hx
        have hx : x ∈ c.all := by rw [ha]; simpa [Ch.all] using hx
        have := h.rg x hx
        simp only []; omega
theorem ChOk.dropL {c c' : Ch} {n : Int} (h : ChOk c) (e : dropL c n = some c') : ChOk c' := by
  unfold Go.Proofs.Ytfcefidmdijjkaa.dropL at e
  have e1 := h.e1; have e2 := h.e2
  split at e
  · cases e
  · split at e
    · cases e
      have hs : c.ms.Sublist c.all := List.sublist_append_left ..
      refine ⟨by simp only []; omega, by simp only []; omega, h.l1, ?_, ?_⟩
      · have := List.Pairwise.sublist (hs.map (·.nd)) h.up
        simpa [Ch.all] using this
      · intro x hx
        have hx : x ∈ c.ms := by simpa [Ch.all] using hx
        have := h.rg x (hs.subset hx)
        simp only []; omega
    · split at e
      · cases e
      · rename_i n1 n2 n3
        cases e
        simp only [not_or] at n3
        obtain ⟨n3, n4⟩ := n3
        have hs : (c.ms.filter (fun m => m.nd != n) ++ c.ln.toList).Sublist c.all := List.Sublist.append (List.filter_sublist ..) (List.Sublist.refl _)
        refine ⟨by simp only []; omega, by simp only []; omega, ?_, List.Pairwise.sublist (hs.map (·.nd)) h.up, ?_⟩
        · simp only []
          have l1 := h.l1
          have hu : (c.ms.map (·.nd)).Pairwise (· ≠ ·) := List.Pairwise.sublist ((List.sublist_append_left c.ms c.ln.toList).map (·.nd)) h.up
          match hm : c.ms with
          | [] => rw [hm] at l1; simp at l1
          | [a] => rw [hm] at n4; simp at n4
          | a :: b :: t =>
            rw [hm] at hu
            simp only [List.map_cons, List.pairwise_cons, List.mem_cons, forall_eq_or_imp] at hu
            have hab := hu.1.1
            by_cases h1 : a.nd = n
            · have h2 : b.nd ≠ n := by omega
              simp [List.filter_cons, h1, h2]
            · simp [List.filter_cons, h1]
        · intro x hx
          have := h.rg x (hs.subset hx)
          simp only []; omega
end Go.Proofs.Ytfcefidmdijjkaa

/-
  Slices of arrays behind pointers, copy within a block, parts of a block that read as elements.
-/
set_option linter.unusedVariables false
set_option linter.unusedSimpArgs false
namespace Go.Sl
open Go

/-- Where a slice of an array begins: elements of m cells, n of them, from the l-th. -/
def arAt (b off m n l : Nat) : Addr := if n = l then ⟨b, off, none⟩ else ⟨b, off + l * m, none⟩
theorem arAt_zero (b off m n : Nat) : arAt b off m n 0 = ⟨b, off, none⟩ := by unfold arAt; split <;> simp

section
variable {g : World} {P : Program} {ops : Array Oper} {Q : Exit → Act → World → Prop} {q : Bool} {n d ty : Nat} {pos : String} {af : Array Edge} {rest : List Oper} {L : Fm} {H : HH}
variable {x i j : Operand} {t e m lo hi len b off : Nat} {ag : Bool} {kd kd' : IntKind}
theorem WX.arTo (hx : ev L x = some (.pointer (some ⟨b, off, none⟩))) (hj' : ev L j = some (.int kd' (hi : Int))) (h2 : hi ≤ len) [ht : TU P t (.array len e)] [hl : TL P e m ag]
    (hd : Nat.blt d n = true) (kk : WX q g P ops Q n rest ((d, .slice (some ⟨b, off, none⟩) hi len) :: L) H) : WX q g P ops Q n (⟨some d, .slice t x none (some j) none, ty, pos, af, none⟩ :: rest) L H :=
  WX.val (fun a' ha w hw => by
    have e0 : ∀ k : Nat, (if k = 0 then (⟨b, off, none⟩ : Addr) else (⟨b, off, none⟩ : Addr).add (0 * m)) = ⟨b, off, none⟩ := fun k => by split <;> simp [add_none]
    simp [execOp, ha.ev hx, ha.ev hj', Instr.sliceAt, Instr.sureAddr, Instr.sliceBounds, bound_ok h2, ht.run, hl.sizeOf, add_none]) hd kk
theorem WX.arFrom (hx : ev L x = some (.pointer (some ⟨b, off, none⟩))) (hi' : ev L i = some (.int kd (lo : Int))) (h1 : lo ≤ len) [ht : TU P t (.array len e)] [hl : TL P e m ag]
    (hd : Nat.blt d n = true) (kk : WX q g P ops Q n rest ((d, .slice (some (arAt b off m len lo)) (len - lo) (len - lo)) :: L) H) : WX q g P ops Q n (⟨some d, .slice t x (some i) none none, ty, pos, af, none⟩ :: rest) L H :=
  WX.val (fun a' ha w hw => by
    simp [execOp, ha.ev hx, ha.ev hi', Instr.sliceAt, Instr.sureAddr, Instr.sliceBounds, bound_ok h1, ht.run, hl.sizeOf, add_none, arAt]) hd kk
theorem WX.arCut (hx : ev L x = some (.pointer (some ⟨b, off, none⟩))) (hi' : ev L i = some (.int kd (lo : Int))) (hj' : ev L j = some (.int kd' (hi : Int))) (h1 : lo ≤ hi) (h2 : hi ≤ len) [ht : TU P t (.array len e)] [hl : TL P e m ag]
    (hd : Nat.blt d n = true) (kk : WX q g P ops Q n rest ((d, .slice (some (arAt b off m len lo)) (hi - lo) (len - lo)) :: L) H) : WX q g P ops Q n (⟨some d, .slice t x (some i) (some j) none, ty, pos, af, none⟩ :: rest) L H :=
  WX.val (fun a' ha w hw => by
    simp [execOp, ha.ev hx, ha.ev hi', ha.ev hj', Instr.sliceAt, Instr.sureAddr, Instr.sliceBounds, bound_ok h1, bound_ok h2, ht.run, hl.sizeOf, add_none, arAt]) hd kk
/-- copy within one block. -/
theorem WX.copyIn {y : Operand} {t2 dl dc sl sc T i0 j0 : Nat} {cs vs : List Value} {K : Obj → HH} (hx : ev L x = some (.slice (some ⟨b, i0, none⟩) dl dc)) (hy : ev L y = some (.slice (some ⟨b, j0, none⟩) sl sc)) [ht : TU P t (.slice e)] [hl : TL P e m ag]
    [hf : Foc b (.cells (List.toArray cs) T (0, 0)) H K] (hv : (cs.drop j0).take (Nat.min sl dl * m) = vs) (hvl : vs.length = Nat.min sl dl * m) (h1 : oneCells vs = true) (hb : Nat.ble (i0 + vs.length) cs.length = true)
    (hd : Nat.blt d n = true) (k : WX false g P ops Q n rest ((d, .int .i64 (Nat.min sl dl : Int)) :: L) (K (.cells (List.toArray (setAt cs i0 vs)) T (0, 0)))) :
    WX false g P ops Q n (⟨some d, .call ⟨.builtin .copy, #[x, y], #[t, t2]⟩, ty, pos, af, none⟩ :: rest) L H :=
  WX.eff hd (fun a w ha hw => by
    obtain ⟨w', e1, e2, e3, e4⟩ := run_storeCells (P := P) vs i0 0 cs w (hf.heap hw) (by have := Nat.le_of_ble_eq_true hb; omega) h1
    have e5 := run_loadCells_list (P := P) w ⟨b, j0, none⟩ vs (fun j v he => by
      rw [add_none, cell_bk (hf.heap hw)]
      have hlt := (List.getElem?_eq_some_iff.1 he).1
      rw [← hv, List.getElem?_take, if_pos (by omega), List.getElem?_drop] at he
      exact he)
    rw [hvl] at e5
    refine ⟨_, w', _, run_bi (args := [x, y]) (r := .int .i64 (Nat.min sl dl : Int)) (by simp [ha.ev hx, ha.ev hy]; rfl) ?_, hf.set hw e2 e3 e4, k⟩
    simp [builtin, Builtin.copy_, Builtin.lenOf, Builtin.firstCells, ht.run, hl.sizeOf, e5, e1, goInt])
end

section
variable {α : Type} [Enc α]
/-- A part of a block reads as elements. -/
theorem Rs.part {b o T c : Nat} {fr : Nat × Nat} {pre post cs : List Value} {xs : List α} (hcs : cs = pre ++ (encs xs ++ post)) (ho : pre.length = o) (hc : xs.length ≤ c) : Rs xs (.slice (some ⟨b, o, none⟩) xs.length c) [(b, .cells (List.toArray cs) T fr)] := by
  subst hcs; subst ho
  refine ⟨_, _, rfl, hc, fun k y hk => ⟨b, pre.length, rfl, fun j u hu g w hw => ?_⟩⟩
  have hj : j < Enc.sz α := by have := (List.getElem?_eq_some_iff.1 hu).1; rwa [Enc.len] at this
  rw [cell_bk (hw.2.2 b _ (List.mem_cons_self)), List.getElem?_append_right (by omega), show pre.length + (k * Enc.sz α + j) - pre.length = k * Enc.sz α + j by omega, encs_get hk hj, hu]
theorem Rs.none {v : Value} {p : Option Addr} {c : Nat} (h : Hp) (e : v = .slice p 0 c) : Rs ([] : List α) v h := ⟨p, c, e, Nat.zero_le _, fun k y hk => by simp at hk⟩
/-- append to an empty slice without room. -/
theorem IsSl.empty_nil (T : Nat) : IsSl T ([] : List α) (.slice none 0 0) [] := IsSl.nil T
end
end Go.Sl

/-
  roster: a chain's members, and whether it is right.
-/
set_option linter.unusedVariables false
set_option linter.unusedSimpArgs false
namespace Go.Proofs.Ytfcefidmdijjkaa
open Go Go.Sl

def Mem.enc (m : Mem) : List Value := [.int .i64 m.nd, .int .i64 m.sn]
instance : Enc Mem := ⟨2, Mem.enc, fun _ => rfl, fun _ => rfl, by decide⟩
abbrev CfBk (b : Nat) (c : Cfg) : Hp := [(b, .cells (List.toArray c.enc) 37 (0, 0))]
theorem cfg_ms {c : Ch} (h : c.ms.length ≤ 4) : ∃ post, c.cfg.enc = [.int .i64 c.cfg.ep, .int .i64 c.cfg.n] ++ (encs c.ms ++ post) := by
  obtain ⟨ep, ms, ln⟩ := c
  simp only [] at h
  match ms, h with
  | [], _ => exact ⟨_, rfl⟩
  | [_], _ => exact ⟨_, rfl⟩
  | [_, _], _ => exact ⟨_, rfl⟩
  | [_, _, _], _ => exact ⟨_, rfl⟩
  | [_, _, _, _], _ => exact ⟨_, rfl⟩
theorem cfg_rs {c : Ch} (h : c.ms.length ≤ 4) (b : Nat) : Rs c.ms (.slice (some ⟨b, 2, none⟩) c.ms.length 4) (CfBk b c.cfg) := by
  obtain ⟨post, e⟩ := cfg_ms h
  exact Rs.part e rfl h
/-- What stands behind the members. -/
def zrow (k : Nat) : List Mem := List.replicate (4 - k) Mem.z
theorem cfg_zs {c : Ch} (h : c.ms.length ≤ 4) (b : Nat) : Rs (zrow c.ms.length) (.slice (some (arAt b 2 2 4 c.ms.length)) (4 - c.ms.length) (4 - c.ms.length)) (CfBk b c.cfg) := by
  obtain ⟨ep, ms, ln⟩ := c
  simp only [] at h ⊢
  match ms, h with
  | [], _ => exact Rs.part (pre := [.int .i64 ep, .int .i64 0]) (post := (Cfg.enc (Ch.cfg ⟨ep, [], ln⟩)).drop 10) (xs := zrow 0) rfl rfl (Nat.le_refl _)
  | [a], _ => exact Rs.part (pre := [.int .i64 ep, .int .i64 1] ++ encs [a]) (post := (Cfg.enc (Ch.cfg ⟨ep, [a], ln⟩)).drop 10) (xs := zrow 1) rfl rfl (Nat.le_refl _)
  | [a, a2], _ => exact Rs.part (pre := [.int .i64 ep, .int .i64 2] ++ encs [a, a2]) (post := (Cfg.enc (Ch.cfg ⟨ep, [a, a2], ln⟩)).drop 10) (xs := zrow 2) rfl rfl (Nat.le_refl _)
  | [a, a2, a3], _ => exact Rs.part (pre := [.int .i64 ep, .int .i64 3] ++ encs [a, a2, a3]) (post := (Cfg.enc (Ch.cfg ⟨ep, [a, a2, a3], ln⟩)).drop 10) (xs := zrow 3) rfl rfl (Nat.le_refl _)
  | [_, _, _, _], _ => exact Rs.none _ rfl

theorem cloneM_ct {xs : List Mem} {v : Value} {h : Hp} (hs : Rs xs v h) (hl : xs.length ≤ 1000000) :
    Ct Try.prog 65 [v] [h] (fun r H' => ∃ h', IsSl 34 xs r h' ∧ H' = [h', h]) := by
  obtain ⟨p, c, rfl⟩ := hs.len
  refine Ct.mk' Try.func65 rfl rfl rfl (fun g R => ?_)
  try simp only [List.cons_append]
  simp only [List.nil_append]
  cases p with
  | none =>
    have hx : xs = [] := by
      obtain ⟨a, c', e, _, f⟩ := hs
      cases e
      cases xs with
      | nil => rfl
      | cons y r => obtain ⟨b, off, e, _⟩ := f 0 y rfl; cases e
    subst hx
    repeat' (first | refine go ?_ | refine mv ?_ | refine asg ?_ | (refine I.cond ?_; refine cT ?_) | (refine I.bin ?_; refine WX.eqlN rfl rfl rfl ?_) | fail)
    exact D.fin1 [[], h] _ rfl rfl ⟨_, IsSl.nil _, rfl⟩
  | some a =>
    repeat' (first | refine go ?_ | refine mv ?_ | refine asg ?_ | (refine I.cond ?_; refine cF ?_) | (refine I.bin ?_; refine WX.eqlN rfl rfl rfl ?_) | fail)
    refine I.bs ?_
    refine WX.lit (ys := ([] : List Mem)) (vs := []) rfl rfl rfl rfl rfl rfl (by decide) rfl (fun v1 h1 hs1 => ?_)
    repeat' (first | refine mv ?_ | fail)
    refine WX.app rfl rfl hs1 hs rfl rfl (by decide) (by simp only [List.length_nil]; omega) rfl (fun v2 h2 hs2 => ?_)
    rw [List.nil_append] at hs2
    repeat' (first | refine go ?_ | refine asg ?_ | fail)
    exact D.fin1 [h2, h] _ rfl rfl ⟨_, hs2, rfl⟩

theorem members_ct {c : Ch} (ok : ChOk c) :
    Ct Try.prog 53 [.agg (List.toArray c.cfg.enc)] [] (fun r H' => ∃ h', IsSl 34 c.all r h' ∧ H' = [h']) := by
  have h4 : c.ms.length ≤ 4 := by have := ok.l4; omega
  have hrs := cfg_rs h4
  obtain ⟨ep, ms, ln⟩ := c
  simp only [] at h4 hrs
  refine Ct.mk' Try.func53 rfl rfl rfl (fun g R => ?_)
  try simp only [List.cons_append]
  simp only [List.nil_append]
  cases ln with
  | none =>
    repeat' (first | refine go ?_ | (refine I.ld ?_; refine ld rfl ?_) | refine asg ?_ | (refine I.fa ?_; refine fa ?_) | refine bx rfl (fun _ => ?_) | fail)
    rename_i b
    refine WX.arTo (hi := ms.length) rfl rfl h4 rfl ?_
    skip
    refine WX.call rfl (cloneM_ct (hrs b) (by omega)) rfl ?_
    rintro _ _ ⟨h1, hs1, rfl⟩
    simp only [List.cons_append, List.nil_append]
    repeat' (first | refine go ?_ | refine mv ?_ | (refine I.ld ?_; refine ld rfl ?_) | refine asg ?_ | (refine I.fa ?_; refine fa ?_) | (refine I.cond ?_; refine cF ?_) | fail)
    exact D.fin1 [h1] _ rfl rfl ⟨h1, by simpa [Ch.all] using hs1, rfl⟩
  | some m =>
    repeat' (first | refine go ?_ | (refine I.ld ?_; refine ld rfl ?_) | refine asg ?_ | (refine I.fa ?_; refine fa ?_) | refine bx rfl (fun _ => ?_) | fail)
    rename_i b
    refine WX.arTo (hi := ms.length) rfl rfl h4 rfl ?_
    skip
    refine WX.call rfl (cloneM_ct (hrs b) (by omega)) rfl ?_
    rintro _ _ ⟨h1, hs1, rfl⟩
    simp only [List.cons_append, List.nil_append]
    repeat' (first | refine go ?_ | refine mv ?_ | (refine I.ld ?_; first | refine ld rfl ?_ | refine lA rfl ?_) | refine asg ?_ | (refine I.fa ?_; refine fa ?_) | (refine I.cond ?_; refine cT ?_) | fail)
    refine I.bs ?_
    refine WX.lit (ys := [m]) rfl rfl rfl rfl rfl rfl (by decide) rfl (fun v2 h2 hs2 => ?_)
    skip
    refine WX.app rfl rfl hs1 hs2.rs rfl rfl (by decide) (by simp only [List.length_cons, List.length_nil]; omega) rfl (fun v3 h3 hs3 => ?_)
    repeat' (first | refine go ?_ | refine mv ?_ | refine asg ?_ | fail)
    exact D.fin1 [h3] _ rfl rfl ⟨h3, by simpa [Ch.all] using hs3, rfl⟩

theorem node_ct (n : Int) : Ct Try.prog 48 [.int .i64 n] [] (fun r H' => r = .bool (decide (0 ≤ n ∧ n < 4)) ∧ H' = []) := by
  refine Ct.mk' Try.func48 rfl rfl rfl (fun g R => ?_)
  try simp only [List.cons_append]
  simp only [List.nil_append]
  by_cases h0 : 0 ≤ n
  · repeat' (first | refine go ?_ | refine mv ?_ | refine asg ?_ | (refine I.gd ?_; first | refine gy ?_ | refine gT ?_) | (refine I.bin ?_; refine cm rfl rfl ?_) | (refine I.pk ?_; refine pT ?_) | fail)
    exact D.fin1 [] _ rfl rfl ⟨by simp [h0], rfl⟩
  · repeat' (first | refine go ?_ | refine mv ?_ | refine asg ?_ | (refine I.gd ?_; first | refine gn ?_ | refine gF ?_) | (refine I.bin ?_; refine cm rfl rfl ?_) | (refine I.pk ?_; refine pF ?_) | fail)
    exact D.fin1 [] _ rfl rfl ⟨by simp [h0], rfl⟩

/-- Which nodes were seen. -/
def seenL (l : List Mem) : List Value := [.bool (l.any fun m => m.nd == 0), .bool (l.any fun m => m.nd == 1), .bool (l.any fun m => m.nd == 2), .bool (l.any fun m => m.nd == 3)]
theorem seen_get {l : List Mem} {n : Int} (h0 : 0 ≤ n) (h4 : n < 4) : (seenL l)[n.toNat]? = some (.bool (l.any fun m => m.nd == n)) := by
  rcases (by omega : n = 0 ∨ n = 1 ∨ n = 2 ∨ n = 3) with rfl | rfl | rfl | rfl <;> rfl
theorem seen_set {l : List Mem} {m : Mem} (h0 : 0 ≤ m.nd) (h4 : m.nd < 4) : (seenL l).set m.nd.toNat (.bool true) = seenL (l ++ [m]) := by
  unfold seenL
  rcases (by omega : m.nd = 0 ∨ m.nd = 1 ∨ m.nd = 2 ∨ m.nd = 3) with h | h | h | h <;> rw [h] <;> simp [List.any_append, h]

theorem not_seen {c : Ch} (ok : ChOk c) {k : Nat} {m : Mem} (hk : c.all[k]? = some m) : ((c.all.take k).any fun x => x.nd == m.nd) = false := by
  rw [List.any_eq_false]
  intro x hx
  obtain ⟨h1, h2⟩ := List.getElem?_eq_some_iff.1 hk
  have e : c.all = c.all.take k ++ m :: c.all.drop (k + 1) := by rw [← h2, ← List.drop_eq_getElem_cons h1, List.take_append_drop]
  have hp := ok.up
  rw [e, List.map_append, List.map_cons, List.pairwise_append] at hp
  have := hp.2.2 x.nd (List.mem_map.2 ⟨x, hx, rfl⟩) m.nd (List.mem_cons_self ..)
  simpa using this

set_option maxRecDepth 20000 in
theorem right_ct {c : Ch} (ok : ChOk c) : Ct Try.prog 52 [.agg (List.toArray c.cfg.enc)] [] (fun r H' => r = .bool true ∧ H' = []) := by
  have h4 : c.ms.length ≤ 4 := by have := ok.l4; omega
  have hzs := cfg_zs h4
  have hmc := members_ct ok
  have he1 : 1 ≤ c.cfg.ep := ok.e1
  have he2 : c.cfg.ep ≤ 1099511627776 := ok.e2
  have hn1 : 1 ≤ c.cfg.n := by have := ok.l1; show (1 : Int) ≤ (c.ms.length : Int); omega
  have hn4 : c.cfg.n ≤ 4 := by show (c.ms.length : Int) ≤ 4; omega
  have hall : c.all.length ≤ 4 := by have := ok.l4; unfold Ch.all; rw [List.length_append]; exact this
  refine Ct.mk' Try.func52 rfl rfl rfl (fun g R => ?_)
  try simp only [List.cons_append]
  simp only [List.nil_append]
  repeat' (first | refine go ?_ | refine mv ?_ | (refine I.ld ?_; refine ld rfl ?_) | refine asg ?_ | (refine I.gd ?_; first | refine gy ?_ | refine gF ?_) | (refine I.fa ?_; refine fa ?_) | (refine I.bin ?_; refine cm rfl rfl ?_) | (refine I.pk ?_; refine pF ?_) | (refine I.cond ?_; refine cN ?_) | refine bx rfl (fun _ => ?_) | fail)
  rename_i b
  refine WX.arFrom (lo := c.ms.length) rfl rfl h4 rfl ?_
  repeat' (first | refine go ?_ | refine mv ?_ | (refine I.bi ?_; refine l1 ?_) | fail)
  have hz := hzs b
  refine W.loop (α := Nat) (fun k => k ≤ 4 - c.ms.length) (fun k => [(1, .pointer (some ⟨b, 0, none⟩)), (29, .slice (some (arAt b 2 2 4 c.ms.length)) (4 - c.ms.length) (4 - c.ms.length)), (30, .int .i64 (4 - c.ms.length : Nat)), (31, .int .i64 (k : Int))]) (fun _ => [CfBk b c.cfg, R]) (fun k => 4 - c.ms.length - k) 0 (Nat.zero_le _) (by repeat (first | exact Fsub.nil | refine Fsub.cons rfl ?_)) (Hsub.of_picks inferInstance) ?_
  intro k hk
  by_cases hlt : k < 4 - c.ms.length
  · have hzk : (zrow c.ms.length)[k]? = some Mem.z := by unfold zrow; rw [List.getElem?_replicate, if_pos hlt]
    repeat' (first | refine go ?_ | refine mv ?_ | (refine I.ld ?_; first | refine lA rfl ?_ | refine lF rfl (by assumption) ?_) | (refine I.bin ?_; first | refine cm rfl rfl ?_ | refine ad ?_) | (refine I.cond ?_; first | refine cF ?_ | refine cP ?_) | (refine I.ix ?_; refine ix rfl rfl ?_) | (refine I.st ?_; refine sG rfl rfl ?_) | refine bd ?_ | refine al (fun _ => ?_) | (refine I.bin ?_; refine WX.neqA (b := true) rfl rfl rfl rfl ?_) | fail)
    exact D.round (k + 1) (by omega) (by omega) (by repeat (first | exact Fsub.nil | refine Fsub.cons rfl ?_)) (Hsub.of_picks inferInstance)
  · obtain rfl : k = 4 - c.ms.length := by omega
    cases hl : c.ln with
    | none =>
      have hj : c.cfg.jo = false := by show c.ln.isSome = false; rw [hl]; rfl
      have hle : c.cfg.le = Mem.z := by show c.ln.getD Mem.z = Mem.z; rw [hl]; rfl
      repeat' (first | refine go ?_ | refine mv ?_ | (refine I.ld ?_; refine ld rfl ?_) | (refine I.fa ?_; refine fa ?_) | (refine I.bin ?_; refine cm rfl rfl ?_) | (refine I.cond ?_; refine cN ?_) | (refine I.un ?_; refine nt ?_) | fail)
      rw [hj]
      repeat' (first | (refine I.ld ?_; refine lA rfl ?_) | (refine I.gd ?_; refine gy ?_) | (refine I.fa ?_; refine fa ?_) | refine bd ?_ | fail)
      refine WX.neqA (b := true) (xs := Mem.enc c.cfg.le) rfl rfl (by rw [hle]; rfl) rfl ?_
      repeat' (first | refine go ?_ | (refine I.ld ?_; refine lA rfl ?_) | (refine I.pk ?_; refine pT ?_) | (refine I.cond ?_; refine cF ?_) | refine al (fun _ => ?_) | fail)
      rename_i b5
      refine WX.call rfl hmc rfl ?_
      rintro _ _ ⟨hm, hsm, rfl⟩
      have hrm := hsm.rs
      obtain ⟨vp, vc, rfl⟩ := hrm.len
      simp only [List.cons_append, List.nil_append]
      repeat' (first | refine go ?_ | refine mv ?_ | (refine I.bi ?_; refine ln rfl (by assumption) ?_) | fail)
      refine W.flat (H' := [hm, [(b5, .cells (List.toArray (seenL (c.all.take 0))) 135 (0, 0))], CfBk b c.cfg, R]) rfl ?_
      refine W.loop (α := Nat) (fun k => k ≤ c.all.length) (fun k => [(1, .pointer (some ⟨b, 0, none⟩)), (5, .pointer (some ⟨b5, 0, none⟩)), (49, .slice vp c.all.length vc), (50, .int .i64 (c.all.length : Nat)), (51, .int .i64 (k : Int))]) (fun k => [[(b5, .cells (List.toArray (seenL (c.all.take k))) 135 (0, 0))], CfBk b c.cfg, hm, R]) (fun k => c.all.length - k) 0 (Nat.zero_le _) (by repeat (first | exact Fsub.nil | refine Fsub.cons rfl ?_)) (Hsub.of_picks inferInstance) ?_
      intro k hk
      by_cases hlt : k < c.all.length
      · obtain ⟨m, hmk⟩ : ∃ m, c.all[k]? = some m := ⟨_, List.getElem?_eq_getElem hlt⟩
        obtain ⟨r1, r2, r3, r4⟩ := ok.rg m (List.mem_of_getElem? hmk)
        have r4 : m.sn ≤ c.cfg.ep := r4
        have hns := not_seen ok hmk
        have hsg := seen_get (l := c.all.take k) r1 r2
        rw [hns] at hsg
        repeat' (first | refine go ?_ | (refine I.ld ?_; first | refine ld rfl ?_ | refine lF rfl (by assumption) ?_) | (refine I.fa ?_; refine fa ?_) | (refine I.bin ?_; refine cm rfl rfl ?_) | (refine I.cond ?_; refine cP ?_) | (refine I.ix ?_; refine ix rfl rfl ?_) | (refine I.st ?_; refine sG rfl rfl ?_) | refine al (fun _ => ?_) | fail)
        refine WX.callQ rfl (node_ct m.nd) rfl ?_
        rw [decide_eq_true (⟨r1, r2⟩ : 0 ≤ m.nd ∧ m.nd < 4)]
        have hsg2 : (seenL (c.all.take k))[0 + m.nd.toNat * 1]? = some (.bool false) := by rw [Nat.zero_add, Nat.mul_one]; exact hsg
        have hst : (seenL (c.all.take k)).set (0 + m.nd.toNat * 1) (.bool true) = seenL (c.all.take (k + 1)) := by rw [Nat.zero_add, Nat.mul_one, seen_set r1 r2, List.take_add_one, hmk]; rfl
        have hsl : Nat.blt (0 + m.nd.toNat * 1) (seenL (c.all.take k)).length = true := Nat.ble_eq_true_of_le (by show 0 + m.nd.toNat * 1 + 1 ≤ 4; omega)
        repeat' (first | refine mv ?_ | (refine I.ld ?_; refine ld rfl ?_) | (refine I.gd ?_; refine gy ?_) | (refine I.fa ?_; refine fa ?_) | (refine I.ix ?_; refine iP ?_) | (refine I.un ?_; refine nt ?_) | fail)
        refine WX.load rfl hsg2 rfl ?_
        repeat' (first | refine go ?_ | refine mv ?_ | (refine I.ld ?_; refine ld rfl ?_) | (refine I.gd ?_; first | refine gy ?_ | refine gF ?_) | (refine I.fa ?_; refine fa ?_) | (refine I.bin ?_; refine cm rfl rfl ?_) | (refine I.pk ?_; refine pF ?_) | (refine I.cond ?_; refine cN ?_) | (refine I.ix ?_; refine iP ?_) | fail)
        refine WX.store rfl rfl rfl hsl ?_
        rw [hst]
        repeat' (first | refine go ?_ | refine mv ?_ | (refine I.bin ?_; refine ad ?_) | fail)
        exact D.round (k + 1) (by omega) (by omega) (by repeat (first | exact Fsub.nil | refine Fsub.cons rfl ?_)) (Hsub.of_picks inferInstance)
      · obtain rfl : k = c.all.length := by omega
        repeat' (first | refine go ?_ | refine asg ?_ | (refine I.bin ?_; refine cm rfl rfl ?_) | (refine I.cond ?_; refine cN ?_) | fail)
        exact D.fin1 [] _ rfl rfl ⟨rfl, rfl⟩
    | some m =>
      have hj : c.cfg.jo = true := by show c.ln.isSome = true; rw [hl]; rfl
      repeat' (first | refine go ?_ | refine mv ?_ | (refine I.ld ?_; refine ld rfl ?_) | (refine I.fa ?_; refine fa ?_) | (refine I.bin ?_; refine cm rfl rfl ?_) | (refine I.cond ?_; refine cN ?_) | (refine I.un ?_; refine nt ?_) | fail)
      rw [hj]
      repeat' (first | refine go ?_ | (refine I.ld ?_; refine lA rfl ?_) | (refine I.gd ?_; refine gn ?_) | (refine I.pk ?_; refine pF ?_) | (refine I.cond ?_; refine cF ?_) | refine al (fun _ => ?_) | fail)
      rename_i b5
      refine WX.call rfl hmc rfl ?_
      rintro _ _ ⟨hm, hsm, rfl⟩
      have hrm := hsm.rs
      obtain ⟨vp, vc, rfl⟩ := hrm.len
      simp only [List.cons_append, List.nil_append]
      repeat' (first | refine go ?_ | refine mv ?_ | (refine I.bi ?_; refine ln rfl (by assumption) ?_) | fail)
      refine W.flat (H' := [hm, [(b5, .cells (List.toArray (seenL (c.all.take 0))) 135 (0, 0))], CfBk b c.cfg, R]) rfl ?_
      refine W.loop (α := Nat) (fun k => k ≤ c.all.length) (fun k => [(1, .pointer (some ⟨b, 0, none⟩)), (5, .pointer (some ⟨b5, 0, none⟩)), (49, .slice vp c.all.length vc), (50, .int .i64 (c.all.length : Nat)), (51, .int .i64 (k : Int))]) (fun k => [[(b5, .cells (List.toArray (seenL (c.all.take k))) 135 (0, 0))], CfBk b c.cfg, hm, R]) (fun k => c.all.length - k) 0 (Nat.zero_le _) (by repeat (first | exact Fsub.nil | refine Fsub.cons rfl ?_)) (Hsub.of_picks inferInstance) ?_
      intro k hk
      by_cases hlt : k < c.all.length
      · obtain ⟨m, hmk⟩ : ∃ m, c.all[k]? = some m := ⟨_, List.getElem?_eq_getElem hlt⟩
        obtain ⟨r1, r2, r3, r4⟩ := ok.rg m (List.mem_of_getElem? hmk)
        have r4 : m.sn ≤ c.cfg.ep := r4
        have hns := not_seen ok hmk
        have hsg := seen_get (l := c.all.take k) r1 r2
        rw [hns] at hsg
        repeat' (first | refine go ?_ | (refine I.ld ?_; first | refine ld rfl ?_ | refine lF rfl (by assumption) ?_) | (refine I.fa ?_; refine fa ?_) | (refine I.bin ?_; refine cm rfl rfl ?_) | (refine I.cond ?_; refine cP ?_) | (refine I.ix ?_; refine ix rfl rfl ?_) | (refine I.st ?_; refine sG rfl rfl ?_) | refine al (fun _ => ?_) | fail)
        refine WX.callQ rfl (node_ct m.nd) rfl ?_
        rw [decide_eq_true (⟨r1, r2⟩ : 0 ≤ m.nd ∧ m.nd < 4)]
        have hsg2 : (seenL (c.all.take k))[0 + m.nd.toNat * 1]? = some (.bool false) := by rw [Nat.zero_add, Nat.mul_one]; exact hsg
        have hst : (seenL (c.all.take k)).set (0 + m.nd.toNat * 1) (.bool true) = seenL (c.all.take (k + 1)) := by rw [Nat.zero_add, Nat.mul_one, seen_set r1 r2, List.take_add_one, hmk]; rfl
        have hsl : Nat.blt (0 + m.nd.toNat * 1) (seenL (c.all.take k)).length = true := Nat.ble_eq_true_of_le (by show 0 + m.nd.toNat * 1 + 1 ≤ 4; omega)
        repeat' (first | refine mv ?_ | (refine I.ld ?_; refine ld rfl ?_) | (refine I.gd ?_; refine gy ?_) | (refine I.fa ?_; refine fa ?_) | (refine I.ix ?_; refine iP ?_) | (refine I.un ?_; refine nt ?_) | fail)
        refine WX.load rfl hsg2 rfl ?_
        repeat' (first | refine go ?_ | refine mv ?_ | (refine I.ld ?_; refine ld rfl ?_) | (refine I.gd ?_; first | refine gy ?_ | refine gF ?_) | (refine I.fa ?_; refine fa ?_) | (refine I.bin ?_; refine cm rfl rfl ?_) | (refine I.pk ?_; refine pF ?_) | (refine I.cond ?_; refine cN ?_) | (refine I.ix ?_; refine iP ?_) | fail)
        refine WX.store rfl rfl rfl hsl ?_
        rw [hst]
        repeat' (first | refine go ?_ | refine mv ?_ | (refine I.bin ?_; refine ad ?_) | fail)
        exact D.round (k + 1) (by omega) (by omega) (by repeat (first | exact Fsub.nil | refine Fsub.cons rfl ?_)) (Hsub.of_picks inferInstance)
      · obtain rfl : k = c.all.length := by omega
        repeat' (first | refine go ?_ | refine asg ?_ | (refine I.bin ?_; refine cm rfl rfl ?_) | (refine I.cond ?_; refine cN ?_) | fail)
        exact D.fin1 [] _ rfl rfl ⟨rfl, rfl⟩
end Go.Proofs.Ytfcefidmdijjkaa

/-
  roster: First; closures, turn, With, Grown, Without.
-/
set_option linter.unusedVariables false
set_option linter.unusedSimpArgs false
namespace Go.Proofs.Ytfcefidmdijjkaa
open Go Go.Sl

/-- What a call answers: a chain and true, or none and false. -/
def chRes (o : Option Ch) : Value := .tuple (List.toArray [.agg (List.toArray (match o with | some c => c.cfg | none => Cfg.z).enc), .bool o.isSome])
def partM (k i : Nat) : Mem := if i < k then ⟨(i : Int), 1⟩ else Mem.z
def partC (n k : Nat) : Cfg := ⟨1, (n : Int), partM k 0, partM k 1, partM k 2, partM k 3, false, Mem.z⟩
theorem partC_all {n : Nat} (h1 : 1 ≤ n) (h4 : n ≤ 4) : partC n n = (firstCh n).cfg := by
  match n, h1, h4 with
  | 1, _, _ => rfl
  | 2, _, _ => rfl
  | 3, _, _ => rfl
  | 4, _, _ => rfl

theorem first_ct {n : Nat} (h1 : 1 ≤ n) (h4 : n ≤ 4) : Ct Try.prog 18 [.int .i64 (n : Int)] [] (fun r H' => r = chRes (some (firstCh n)) ∧ H' = []) := by
  have hz : Cfg.enc (partC n 0) = Cfg.enc ⟨1, (n : Int), Mem.z, Mem.z, Mem.z, Mem.z, false, Mem.z⟩ := rfl
  refine Ct.mk' Try.func18 rfl rfl rfl (fun g R => ?_)
  try simp only [List.cons_append]
  simp only [List.nil_append]
  repeat' (first | refine go ?_ | refine mv ?_ | refine asg ?_ | (refine I.gd ?_; first | refine gy ?_ | refine gF ?_) | (refine I.bin ?_; refine cm rfl rfl ?_) | (refine I.pk ?_; refine pF ?_) | (refine I.cond ?_; refine cN ?_) | (refine I.st ?_; refine sG rfl rfl ?_) | refine bd ?_ | refine al (fun _ => ?_) | fail)
  rename_i b2 b4
  refine W.flat (H' := [CfBk b4 (partC n 0), CfBk b2 Cfg.z, R]) rfl ?_
  refine W.loop (α := Nat) (fun k => k ≤ n) (fun k => [(2, .pointer (some ⟨b2, 0, none⟩)), (3, .bool false), (4, .pointer (some ⟨b4, 0, none⟩)), (15, .int .i64 (n : Int)), (16, .int .i64 (k : Int))]) (fun k => [CfBk b4 (partC n k), CfBk b2 Cfg.z, R]) (fun k => n - k) 0 (Nat.zero_le _) (by repeat (first | exact Fsub.nil | refine Fsub.cons rfl ?_)) (Hsub.of_picks inferInstance) ?_
  intro k hk
  by_cases hlt : k < n
  · rcases (by omega : k = 0 ∨ k = 1 ∨ k = 2 ∨ k = 3) with rfl | rfl | rfl | rfl
    · repeat' (first | refine go ?_ | refine mv ?_ | refine asg ?_ | (refine I.fa ?_; refine fa ?_) | (refine I.bin ?_; first | refine cm rfl rfl ?_ | refine ad ?_) | (refine I.cond ?_; refine cP ?_) | (refine I.ix ?_; refine iP ?_) | (refine I.st ?_; refine sG rfl rfl ?_) | refine bd ?_ | fail)
      refine D.flat (H' := [CfBk b4 (partC n (0 + 1)), CfBk b2 Cfg.z, R]) rfl ?_
      exact D.round (0 + 1) (by omega) (by omega) (by repeat (first | exact Fsub.nil | refine Fsub.cons rfl ?_)) (Hsub.of_picks inferInstance)
    · repeat' (first | refine go ?_ | refine mv ?_ | refine asg ?_ | (refine I.fa ?_; refine fa ?_) | (refine I.bin ?_; first | refine cm rfl rfl ?_ | refine ad ?_) | (refine I.cond ?_; refine cP ?_) | (refine I.ix ?_; refine iP ?_) | (refine I.st ?_; refine sG rfl rfl ?_) | refine bd ?_ | fail)
      refine D.flat (H' := [CfBk b4 (partC n (1 + 1)), CfBk b2 Cfg.z, R]) rfl ?_
      exact D.round (1 + 1) (by omega) (by omega) (by repeat (first | exact Fsub.nil | refine Fsub.cons rfl ?_)) (Hsub.of_picks inferInstance)
    · repeat' (first | refine go ?_ | refine mv ?_ | refine asg ?_ | (refine I.fa ?_; refine fa ?_) | (refine I.bin ?_; first | refine cm rfl rfl ?_ | refine ad ?_) | (refine I.cond ?_; refine cP ?_) | (refine I.ix ?_; refine iP ?_) | (refine I.st ?_; refine sG rfl rfl ?_) | refine bd ?_ | fail)
      refine D.flat (H' := [CfBk b4 (partC n (2 + 1)), CfBk b2 Cfg.z, R]) rfl ?_
      exact D.round (2 + 1) (by omega) (by omega) (by repeat (first | exact Fsub.nil | refine Fsub.cons rfl ?_)) (Hsub.of_picks inferInstance)
    · repeat' (first | refine go ?_ | refine mv ?_ | refine asg ?_ | (refine I.fa ?_; refine fa ?_) | (refine I.bin ?_; first | refine cm rfl rfl ?_ | refine ad ?_) | (refine I.cond ?_; refine cP ?_) | (refine I.ix ?_; refine iP ?_) | (refine I.st ?_; refine sG rfl rfl ?_) | refine bd ?_ | fail)
      refine D.flat (H' := [CfBk b4 (partC n (3 + 1)), CfBk b2 Cfg.z, R]) rfl ?_
      exact D.round (3 + 1) (by omega) (by omega) (by repeat (first | exact Fsub.nil | refine Fsub.cons rfl ?_)) (Hsub.of_picks inferInstance)
  · obtain rfl : k = n := by omega
    rw [partC_all h1 h4]
    repeat' (first | refine go ?_ | (refine I.ld ?_; refine lA rfl ?_) | refine asg ?_ | (refine I.bin ?_; refine cm rfl rfl ?_) | (refine I.cond ?_; refine cN ?_) | (refine I.st ?_; refine sG rfl rfl ?_) | fail)
    exact D.finR [] _ rfl (.cellA rfl rfl (.tmp rfl .nil)) rfl ⟨rfl, rfl⟩

abbrev NBk (nb : Nat) (k : Int) : Hp := [(nb, .cells (List.toArray [.int .i64 k]) 3 (0, 0))]
def woV (nb : Nat) : Value := .func (.func 39) (List.toArray []) (List.toArray [.pointer (some ⟨nb, 0, none⟩)])
def wiV (nb : Nat) : Value := .func (.func 50) (List.toArray []) (List.toArray [.pointer (some ⟨nb, 0, none⟩)])
theorem isWo_ct (nb : Nat) (k : Int) (m : Mem) : Ct Try.prog 39 [.agg (Enc.enc m).toArray, .pointer (some ⟨nb, 0, none⟩)] [NBk nb k] (fun r H' => r = .bool (decide (m.nd = k)) ∧ H' = [NBk nb k]) := by
  refine Ct.mk' Try.func39 rfl rfl rfl (fun g R => ?_)
  try simp only [List.cons_append]
  simp only [List.nil_append]
  repeat' (first | refine go ?_ | (refine I.ld ?_; refine ld rfl ?_) | refine asg ?_ | (refine I.fa ?_; refine fa ?_) | (refine I.bin ?_; refine cm rfl rfl ?_) | refine bx rfl (fun _ => ?_) | fail)
  exact D.fin1 [NBk nb k] _ rfl rfl ⟨rfl, rfl⟩
theorem isWi_ct (nb : Nat) (k : Int) (m : Mem) : Ct Try.prog 50 [.agg (Enc.enc m).toArray, .pointer (some ⟨nb, 0, none⟩)] [NBk nb k] (fun r H' => r = .bool (decide (m.nd = k)) ∧ H' = [NBk nb k]) := by
  refine Ct.mk' Try.func50 rfl rfl rfl (fun g R => ?_)
  try simp only [List.cons_append]
  simp only [List.nil_append]
  repeat' (first | refine go ?_ | (refine I.ld ?_; refine ld rfl ?_) | refine asg ?_ | (refine I.fa ?_; refine fa ?_) | (refine I.bin ?_; refine cm rfl rfl ?_) | refine bx rfl (fun _ => ?_) | fail)
  exact D.fin1 [NBk nb k] _ rfl rfl ⟨rfl, rfl⟩
/-- The place of a node, or -1. -/
def plc (ms : List Mem) (k : Int) : Int := match ms.findIdx? (fun p => decide (p.nd = k)) with | none => -1 | some i => (i : Int)
theorem plc_some {ms : List Mem} {k : Int} {j : Nat} {p : Mem} (hp : ms[j]? = some p) (hpk : p.nd = k) (hall : ∀ i p, i < j → ms[i]? = some p → ¬ p.nd = k) : plc ms k = (j : Int) := by
  have hf : ms.findIdx? (fun p => decide (p.nd = k)) = some j := by
    rw [List.findIdx?_eq_some_iff_getElem]
    obtain ⟨h1, h2⟩ := List.getElem?_eq_some_iff.1 hp
    refine ⟨h1, by rw [h2]; simpa using hpk, fun i hi => ?_⟩
    have := hall i _ hi (List.getElem?_eq_getElem (by omega))
    simpa using this
  unfold plc; rw [hf]
theorem plc_none {ms : List Mem} {k : Int} (hall : ∀ p ∈ ms, ¬ p.nd = k) : plc ms k = -1 := by
  have hf : ms.findIdx? (fun p => decide (p.nd = k)) = none := by
    rw [List.findIdx?_eq_none_iff]
    intro x hx
    simpa using hall x hx
  unfold plc; rw [hf]

theorem idxWo_ct {ps : List Mem} {v : Value} {h : Hp} (hs : Rs ps v h) (nb : Nat) (k : Int) (hl : ps.length ≤ 1000000) :
    Ct Try.prog 38 [v, woV nb] [h, NBk nb k] (fun r H' => r = .int .i64 (plc ps k) ∧ H' = [h, NBk nb k]) := by
  refine Ct.mk' Try.func38 rfl rfl rfl (fun g R => ?_)
  try simp only [List.cons_append]
  simp only [List.nil_append]
  repeat' (first | refine go ?_ | refine mv ?_ | refine asg ?_ | (refine I.bi ?_; refine ln rfl (by assumption) ?_) | fail)
  refine W.loop (α := Nat) (fun j => j ≤ ps.length ∧ ∀ i p, i < j → ps[i]? = some p → ¬ p.nd = k) (fun j => [(0, v), (1, woV nb), (7, .int .i64 (ps.length : Int)), (8, .int .i64 (j : Int))]) (fun _ => [h, NBk nb k, R]) (fun j => ps.length - j) 0 ⟨Nat.zero_le _, fun i p hi => absurd hi (Nat.not_lt_zero _)⟩ (by repeat (first | exact Fsub.nil | refine Fsub.cons rfl ?_)) (Hsub.of_picks inferInstance) ?_
  rintro j ⟨hj, hall⟩
  by_cases hlt : j < ps.length
  · obtain ⟨p, hp⟩ : ∃ p, ps[j]? = some p := ⟨_, List.getElem?_eq_getElem hlt⟩
    repeat' (first | refine go ?_ | refine mv ?_ | (refine I.ld ?_; refine lF rfl (by assumption) ?_) | refine asg ?_ | (refine I.bin ?_; refine cm rfl rfl ?_) | (refine I.cond ?_; refine cP ?_) | (refine I.ix ?_; refine ix rfl rfl ?_) | fail)
    refine WX.callV rfl rfl (isWo_ct nb k p) rfl ?_
    rintro _ _ ⟨rfl, rfl⟩
    by_cases hpk : p.nd = k
    · simp only [List.cons_append, List.nil_append]
      repeat' (first | refine go ?_ | refine mv ?_ | refine asg ?_ | (refine I.cond ?_; refine cP ?_) | fail)
      exact D.fin1 [h, NBk nb k] _ rfl rfl ⟨by rw [plc_some hp hpk hall], rfl⟩
    · simp only [List.cons_append, List.nil_append]
      repeat' (first | refine go ?_ | refine mv ?_ | (refine I.bin ?_; refine ad ?_) | (refine I.cond ?_; refine cN ?_) | fail)
      refine D.round (j + 1) ⟨by omega, fun i p' hi hp' => ?_⟩ (by omega) (by repeat (first | exact Fsub.nil | refine Fsub.cons rfl ?_)) (Hsub.of_picks inferInstance)
      rcases Nat.lt_or_ge i j with h | h
      · exact hall i p' h hp'
      · obtain rfl : i = j := by omega
        rw [hp] at hp'
        cases hp'
        exact hpk
  · have hno : ∀ p ∈ ps, ¬ p.nd = k := fun x hx => by
      obtain ⟨i, hi⟩ := List.mem_iff_getElem?.1 hx
      have hlt := (List.getElem?_eq_some_iff.1 hi).1
      exact hall i x (by omega) hi
    repeat' (first | refine go ?_ | refine asg ?_ | (refine I.bin ?_; refine cm rfl rfl ?_) | (refine I.cond ?_; refine cN ?_) | fail)
    exact D.fin1 [h, NBk nb k] _ rfl rfl ⟨by rw [plc_none hno], rfl⟩
theorem idxWi_ct {ps : List Mem} {v : Value} {h : Hp} (hs : Rs ps v h) (nb : Nat) (k : Int) (hl : ps.length ≤ 1000000) :
    Ct Try.prog 38 [v, wiV nb] [h, NBk nb k] (fun r H' => r = .int .i64 (plc ps k) ∧ H' = [h, NBk nb k]) := by
  refine Ct.mk' Try.func38 rfl rfl rfl (fun g R => ?_)
  try simp only [List.cons_append]
  simp only [List.nil_append]
  repeat' (first | refine go ?_ | refine mv ?_ | refine asg ?_ | (refine I.bi ?_; refine ln rfl (by assumption) ?_) | fail)
  refine W.loop (α := Nat) (fun j => j ≤ ps.length ∧ ∀ i p, i < j → ps[i]? = some p → ¬ p.nd = k) (fun j => [(0, v), (1, wiV nb), (7, .int .i64 (ps.length : Int)), (8, .int .i64 (j : Int))]) (fun _ => [h, NBk nb k, R]) (fun j => ps.length - j) 0 ⟨Nat.zero_le _, fun i p hi => absurd hi (Nat.not_lt_zero _)⟩ (by repeat (first | exact Fsub.nil | refine Fsub.cons rfl ?_)) (Hsub.of_picks inferInstance) ?_
  rintro j ⟨hj, hall⟩
  by_cases hlt : j < ps.length
  · obtain ⟨p, hp⟩ : ∃ p, ps[j]? = some p := ⟨_, List.getElem?_eq_getElem hlt⟩
    repeat' (first | refine go ?_ | refine mv ?_ | (refine I.ld ?_; refine lF rfl (by assumption) ?_) | refine asg ?_ | (refine I.bin ?_; refine cm rfl rfl ?_) | (refine I.cond ?_; refine cP ?_) | (refine I.ix ?_; refine ix rfl rfl ?_) | fail)
    refine WX.callV rfl rfl (isWi_ct nb k p) rfl ?_
    rintro _ _ ⟨rfl, rfl⟩
    by_cases hpk : p.nd = k
    · simp only [List.cons_append, List.nil_append]
      repeat' (first | refine go ?_ | refine mv ?_ | refine asg ?_ | (refine I.cond ?_; refine cP ?_) | fail)
      exact D.fin1 [h, NBk nb k] _ rfl rfl ⟨by rw [plc_some hp hpk hall], rfl⟩
    · simp only [List.cons_append, List.nil_append]
      repeat' (first | refine go ?_ | refine mv ?_ | (refine I.bin ?_; refine ad ?_) | (refine I.cond ?_; refine cN ?_) | fail)
      refine D.round (j + 1) ⟨by omega, fun i p' hi hp' => ?_⟩ (by omega) (by repeat (first | exact Fsub.nil | refine Fsub.cons rfl ?_)) (Hsub.of_picks inferInstance)
      rcases Nat.lt_or_ge i j with h | h
      · exact hall i p' h hp'
      · obtain rfl : i = j := by omega
        rw [hp] at hp'
        cases hp'
        exact hpk
  · have hno : ∀ p ∈ ps, ¬ p.nd = k := fun x hx => by
      obtain ⟨i, hi⟩ := List.mem_iff_getElem?.1 hx
      have hlt := (List.getElem?_eq_some_iff.1 hi).1
      exact hall i x (by omega) hi
    repeat' (first | refine go ?_ | refine asg ?_ | (refine I.bin ?_; refine cm rfl rfl ?_) | (refine I.cond ?_; refine cN ?_) | fail)
    exact D.fin1 [h, NBk nb k] _ rfl rfl ⟨by rw [plc_none hno], rfl⟩
theorem contains_ct {ms : List Mem} {v : Value} {h : Hp} (hs : Rs ms v h) (nb : Nat) (k : Int) (hl : ms.length ≤ 1000000) :
    Ct Try.prog 49 [v, wiV nb] [h, NBk nb k] (fun r H' => r = .bool (decide (0 ≤ plc ms k)) ∧ H' = [h, NBk nb k]) := by
  refine Ct.mk' Try.func49 rfl rfl rfl (fun g R => ?_)
  try simp only [List.cons_append]
  simp only [List.nil_append]
  repeat' (first | refine go ?_ | refine mv ?_ | refine asg ?_ | fail)
  refine WX.call rfl (idxWi_ct hs nb k hl) rfl ?_
  rintro _ _ ⟨rfl, rfl⟩
  simp only [List.cons_append, List.nil_append]
  repeat' (first | refine go ?_ | refine asg ?_ | (refine I.bin ?_; refine cm rfl rfl ?_) | fail)
  exact D.fin1 [h, NBk nb k] _ rfl rfl ⟨rfl, rfl⟩
end Go.Proofs.Ytfcefidmdijjkaa

/-
  roster: With and Grown.
-/
set_option linter.unusedVariables false
set_option linter.unusedSimpArgs false
namespace Go.Proofs.Ytfcefidmdijjkaa
open Go Go.Sl

theorem plc_has {c : Ch} {k : Int} : decide (0 ≤ plc c.ms k) = c.has k := by
  by_cases h : ∃ p ∈ c.ms, p.nd = k
  · rw [Ch.has_iff.2 h]
    unfold plc
    cases hf : c.ms.findIdx? (fun p => decide (p.nd = k)) with
    | none =>
      rw [List.findIdx?_eq_none_iff] at hf
      obtain ⟨p, hp, e⟩ := h
      have := hf p hp
      simp [e] at this
    | some i => simp
  · have hn : c.has k = false := by
      cases hh : c.has k with
      | false => rfl
      | true => exact absurd (Ch.has_iff.1 hh) h
    rw [hn, plc_none (fun p hp e => h ⟨p, hp, e⟩)]
    rfl
theorem up_l4 {c : Ch} (ok : ChOk c) : c.ms.length ≤ 4 := by have := ok.l4; omega
/-- The chain when its epoch is turned on. -/
def Ch.on (c : Ch) : Ch := ⟨c.ep + 1, c.ms, c.ln⟩
/-- With another learner. -/
def Cfg.jl (c : Cfg) (v : Bool × Mem) : Cfg := ⟨c.ep, c.n, c.f0, c.f1, c.f2, c.f3, v.1, v.2⟩
theorem withF_ct {c : Ch} (ok : ChOk c) (he : c.ep ≠ 1099511627776) (b nb : Nat) (k : Int) :
    Ct Try.prog 47 [.pointer (some ⟨b, 0, none⟩), .pointer (some ⟨nb, 0, none⟩)] [CfBk b c.on.cfg, NBk nb k]
      (fun r H' => ∃ c2, r = .bool (addL c k).isSome ∧ H' = [CfBk b c2, NBk nb k] ∧ ∀ c', addL c k = some c' → c2 = c'.cfg) := by
  have h4 := up_l4 ok
  have hrs := cfg_rs (c := c.on) h4 b
  have hcn := contains_ct hrs nb k (by show c.ms.length ≤ 1000000; omega)
  have hph : decide (0 ≤ plc c.on.ms k) = c.has k := plc_has
  rw [hph] at hcn
  refine Ct.mk' Try.func47 rfl rfl rfl (fun g R => ?_)
  try simp only [List.cons_append]
  simp only [List.nil_append]
  cases hl : c.ln with
  | some m =>
    have hj : c.on.cfg.jo = true := by show c.ln.isSome = true; rw [hl]; rfl
    have ha : addL c k = none := by unfold addL; rw [if_pos (.inr (.inl (by rw [hl]; rfl)))]
    repeat' (first | refine go ?_ | refine asg ?_ | fail)
    refine W.quiet Try.mix (by kernel_rfl) ?_
    repeat' (first | refine mv ?_ | (refine I.ld ?_; refine ld rfl ?_) | (refine I.fa ?_; refine fa ?_) | (refine I.nc ?_; refine nc ?_) | fail)
    rw [hj]
    repeat' (first | refine go ?_ | refine mv ?_ | refine asg ?_ | (refine I.gd ?_; refine gn ?_) | (refine I.pk ?_; refine pT ?_) | (refine I.cond ?_; refine cT ?_) | fail)
    rw [ha]
    exact D.fin1 [CfBk b c.on.cfg, NBk nb k] _ rfl rfl ⟨_, rfl, rfl, fun c' h => by cases h⟩
  | none =>
    have hj : c.on.cfg.jo = false := by show c.ln.isSome = false; rw [hl]; rfl
    repeat' (first | refine go ?_ | refine asg ?_ | fail)
    refine W.quiet Try.mix (by kernel_rfl) ?_
    repeat' (first | refine mv ?_ | (refine I.ld ?_; refine ld rfl ?_) | (refine I.fa ?_; refine fa ?_) | (refine I.nc ?_; refine nc ?_) | fail)
    rw [hj]
    repeat' (first | (refine I.ld ?_; refine ld rfl ?_) | (refine I.gd ?_; refine gy ?_) | fail)
    refine WX.callQ rfl (node_ct k) rfl ?_
    by_cases hk : 0 ≤ k ∧ k < 4
    · rw [decide_eq_true hk]
      repeat' (first | refine mv ?_ | (refine I.ld ?_; refine ld rfl ?_) | (refine I.gd ?_; refine gy ?_) | (refine I.fa ?_; refine fa ?_) | (refine I.nc ?_; refine nc ?_) | (refine I.pk ?_; refine pF ?_) | (refine I.un ?_; refine nt ?_) | fail)
      refine WX.arTo (hi := c.ms.length) rfl rfl h4 rfl ?_
      repeat' (first | (refine I.gd ?_; refine gy ?_) | (refine WX.makeFunc (first := []) rfl rfl rfl ?_) | fail)
      refine WX.callQ rfl hcn rfl ?_
      cases hh : c.has k with
      | true =>
        have ha : addL c k = none := by unfold addL; rw [if_pos (.inr (.inr (.inr (.inr hh))))]
        repeat' (first | refine go ?_ | refine asg ?_ | (refine I.pk ?_; refine pF ?_) | (refine I.cond ?_; refine cT ?_) | fail)
        rw [ha]
        exact D.fin1 [CfBk b c.on.cfg, NBk nb k] _ rfl rfl ⟨_, rfl, rfl, fun c' h => by cases h⟩
      | false =>
        have ha : addL c k = some ⟨c.ep + 1, c.ms, some ⟨k, c.ep + 1⟩⟩ := by
          unfold addL
          rw [if_neg]
          rintro (h | h | h | h | h)
          · exact he h
          · rw [hl] at h; cases h
          · omega
          · omega
          · rw [hh] at h; cases h
        repeat' (first | refine go ?_ | (refine I.pk ?_; refine pF ?_) | (refine I.cond ?_; refine cF ?_) | fail)
        have hc1 : ∀ (g : World) w, Cf g (fun v : Bool × Mem => [CfBk b (c.on.cfg.jl v), NBk nb k]) w → w.cell? ⟨nb, 0, none⟩ = some (.int .i64 k) := fun g w hw => by
          obtain ⟨v, h⟩ := hw
          have h1 := h.2.2 nb _ (List.mem_cons_of_mem _ (List.mem_cons_self ..))
          rw [cell_bk h1]; rfl
        have hc2 : ∀ (g : World) w, Cf g (fun v : Bool × Mem => [CfBk b (c.on.cfg.jl v), NBk nb k]) w → w.cell? ⟨b, 0 + 0, none⟩ = some (.int .i64 c.on.cfg.ep) := fun g w hw => by
          obtain ⟨v, h⟩ := hw
          have h1 := h.2.2 b _ (List.mem_cons_self ..)
          rw [cell_bk h1]; rfl
        refine W.flat (H' := [CfBk b (c.on.cfg.jl (false, c.on.cfg.le)), NBk nb k, R]) (by rw [← hj]; rfl) ?_
        refine W.mixC (List.replicate 10 true ++ [false, true, true, false]) (Cf g (fun v : Bool × Mem => [CfBk b (c.on.cfg.jl v), NBk nb k])) (fun w h => Cf.of (false, c.on.cfg.le) h) Try.mix (by kernel_rfl) ?_
        repeat' (first | refine go ?_ | refine mv ?_ | (refine I.fa ?_; refine fa ?_) | (refine I.nc ?_; refine nc ?_) | (refine I.st ?_; refine st rfl rfl ?_) | refine bd ?_ | refine WN.load rfl (hc1 g) rfl ?_ | refine WN.load rfl (hc2 g) rfl ?_ | refine WN.un0 (fun _ h => Cf.amb h) ?_ | refine WN.back0 ?_ | refine WN.an ?_ | fail)
        refine D.flat (H' := [CfBk b (c.on.cfg.jl (true, c.on.cfg.le)), NBk nb k, R]) rfl ?_
        refine WN.back (fun w h => Cf.of (true, c.on.cfg.le) h) ?_
        repeat' (first | refine go ?_ | (refine I.fa ?_; refine fa ?_) | (refine I.nc ?_; refine nc ?_) | (refine I.st ?_; refine sG rfl rfl ?_) | refine WN.un0 (fun _ h => Cf.amb h) ?_ | refine WN.back0 ?_ | refine WN.an ?_ | fail)
        refine D.flat (H' := [CfBk b (c.on.cfg.jl (true, ⟨k, c.ep + 1⟩)), NBk nb k, R]) rfl ?_
        refine WN.back (fun w h => Cf.of (true, ⟨k, c.ep + 1⟩) h) ?_
        repeat' (first | refine go ?_ | refine asg ?_ | refine WX.nil ?_ | refine WN.nil ?_ | fail)
        rw [ha]
        exact D.fin1 [CfBk b (c.on.cfg.jl (true, ⟨k, c.ep + 1⟩)), NBk nb k] _ rfl rfl ⟨_, rfl, rfl, fun c' h => by cases h; rfl⟩
    · rw [decide_eq_false hk]
      have ha : addL c k = none := by unfold addL; rw [if_pos (by omega)]
      repeat' (first | refine go ?_ | refine mv ?_ | refine asg ?_ | (refine I.gd ?_; first | refine gy ?_ | refine gn ?_) | (refine I.pk ?_; first | refine pT ?_ | refine pF ?_) | (refine I.cond ?_; refine cT ?_) | (refine I.un ?_; refine nt ?_) | fail)
      rw [ha]
      exact D.fin1 [CfBk b c.on.cfg, NBk nb k] _ rfl rfl ⟨_, rfl, rfl, fun c' h => by cases h⟩

theorem growF_ct {c : Ch} (ok : ChOk c) (he : c.ep ≠ 1099511627776) (b : Nat) :
    Ct Try.prog 51 [.pointer (some ⟨b, 0, none⟩)] [CfBk b c.on.cfg]
      (fun r H' => ∃ c2, r = .bool (growL c).isSome ∧ H' = [CfBk b c2] ∧ ∀ c', growL c = some c' → c2 = c'.cfg) := by
  have h4 := ok.l4
  have h1 := ok.l1
  refine Ct.mk' Try.func51 rfl rfl rfl (fun g R => ?_)
  try simp only [List.cons_append]
  simp only [List.nil_append]
  cases hl : c.ln with
  | none =>
    have hj : c.on.cfg.jo = false := by show c.ln.isSome = false; rw [hl]; rfl
    have ha : growL c = none := by unfold growL; rw [if_neg he, hl]
    repeat' (first | refine go ?_ | refine mv ?_ | (refine I.ld ?_; refine ld rfl ?_) | refine asg ?_ | (refine I.fa ?_; refine fa ?_) | (refine I.nc ?_; refine nc ?_) | (refine I.un ?_; refine nt ?_) | fail)
    rw [hj]
    repeat' (first | refine go ?_ | refine asg ?_ | (refine I.cond ?_; refine cT ?_) | fail)
    rw [ha]
    exact D.fin1 [CfBk b c.on.cfg] _ rfl rfl ⟨_, rfl, rfl, fun c' h => by cases h⟩
  | some m =>
    have ha : growL c = some ⟨c.ep + 1, c.ms ++ [m], none⟩ := by unfold growL; rw [if_neg he, hl]
    rw [ha]
    rw [hl] at h4
    simp only [Option.toList, List.length_cons, List.length_nil] at h4
    obtain ⟨ep, ms, ln⟩ := c
    simp only [] at hl h4 h1
    subst hl
    match ms, h1, h4 with
    | [a], _, _ =>
      have hnn : (Ch.on ⟨ep, [a], some m⟩).cfg.n = 1 := rfl
      repeat' (first | refine go ?_ | refine mv ?_ | (refine I.ld ?_; refine ld rfl ?_) | refine asg ?_ | (refine I.fa ?_; refine fa ?_) | (refine I.nc ?_; refine nc ?_) | (refine I.cond ?_; refine cF ?_) | (refine I.un ?_; refine nt ?_) | fail)
      refine W.mixN 8 (List.replicate 12 true) [CfBk b (Ch.on ⟨ep, [a], some m⟩).cfg] Try.mix (by kernel_rfl) ?_
      repeat' (first | refine go ?_ | refine mv ?_ | (refine I.ld ?_; first | refine ld rfl ?_ | refine lA rfl ?_) | refine asg ?_ | (refine I.fa ?_; refine fa ?_) | (refine I.nc ?_; refine nc ?_) | (refine I.bin ?_; refine ad ?_) | refine mN ?_ | refine mU ?_ | (refine I.ix ?_; refine iP ?_) | (refine I.st ?_; first | refine st rfl rfl ?_ | refine sG rfl rfl ?_) | refine bd ?_ | fail)
      refine D.flat (H' := [CfBk b (Ch.cfg ⟨ep + 1, [a, m], none⟩), R]) rfl ?_
      exact D.fin1 [CfBk b (Ch.cfg ⟨ep + 1, [a, m], none⟩)] _ rfl rfl ⟨_, rfl, rfl, fun c' h => by cases h; rfl⟩
    | [a, a2], _, _ =>
      have hnn : (Ch.on ⟨ep, [a, a2], some m⟩).cfg.n = 2 := rfl
      repeat' (first | refine go ?_ | refine mv ?_ | (refine I.ld ?_; refine ld rfl ?_) | refine asg ?_ | (refine I.fa ?_; refine fa ?_) | (refine I.nc ?_; refine nc ?_) | (refine I.cond ?_; refine cF ?_) | (refine I.un ?_; refine nt ?_) | fail)
      refine W.mixN 8 (List.replicate 12 true) [CfBk b (Ch.on ⟨ep, [a, a2], some m⟩).cfg] Try.mix (by kernel_rfl) ?_
      repeat' (first | refine go ?_ | refine mv ?_ | (refine I.ld ?_; first | refine ld rfl ?_ | refine lA rfl ?_) | refine asg ?_ | (refine I.fa ?_; refine fa ?_) | (refine I.nc ?_; refine nc ?_) | (refine I.bin ?_; refine ad ?_) | refine mN ?_ | refine mU ?_ | (refine I.ix ?_; refine iP ?_) | (refine I.st ?_; first | refine st rfl rfl ?_ | refine sG rfl rfl ?_) | refine bd ?_ | fail)
      refine D.flat (H' := [CfBk b (Ch.cfg ⟨ep + 1, [a, a2, m], none⟩), R]) rfl ?_
      exact D.fin1 [CfBk b (Ch.cfg ⟨ep + 1, [a, a2, m], none⟩)] _ rfl rfl ⟨_, rfl, rfl, fun c' h => by cases h; rfl⟩
    | [a, a2, a3], _, _ =>
      have hnn : (Ch.on ⟨ep, [a, a2, a3], some m⟩).cfg.n = 3 := rfl
      repeat' (first | refine go ?_ | refine mv ?_ | (refine I.ld ?_; refine ld rfl ?_) | refine asg ?_ | (refine I.fa ?_; refine fa ?_) | (refine I.nc ?_; refine nc ?_) | (refine I.cond ?_; refine cF ?_) | (refine I.un ?_; refine nt ?_) | fail)
      refine W.mixN 8 (List.replicate 12 true) [CfBk b (Ch.on ⟨ep, [a, a2, a3], some m⟩).cfg] Try.mix (by kernel_rfl) ?_
      repeat' (first | refine go ?_ | refine mv ?_ | (refine I.ld ?_; first | refine ld rfl ?_ | refine lA rfl ?_) | refine asg ?_ | (refine I.fa ?_; refine fa ?_) | (refine I.nc ?_; refine nc ?_) | (refine I.bin ?_; refine ad ?_) | refine mN ?_ | refine mU ?_ | (refine I.ix ?_; refine iP ?_) | (refine I.st ?_; first | refine st rfl rfl ?_ | refine sG rfl rfl ?_) | refine bd ?_ | fail)
      refine D.flat (H' := [CfBk b (Ch.cfg ⟨ep + 1, [a, a2, a3, m], none⟩), R]) rfl ?_
      exact D.fin1 [CfBk b (Ch.cfg ⟨ep + 1, [a, a2, a3, m], none⟩)] _ rfl rfl ⟨_, rfl, rfl, fun c' h => by cases h; rfl⟩
end Go.Proofs.Ytfcefidmdijjkaa

/-
  roster: Without's closure.
-/
set_option linter.unusedVariables false
set_option linter.unusedSimpArgs false
namespace Go.Proofs.Ytfcefidmdijjkaa
open Go Go.Sl

theorem up_ms {c : Ch} (ok : ChOk c) : (c.ms.map (·.nd)).Pairwise (· ≠ ·) := List.Pairwise.sublist ((List.sublist_append_left c.ms c.ln.toList).map (·.nd)) ok.up
/-- The one of that node, and no other one. -/
theorem at_node {ms : List Mem} {k : Int} (hu : (ms.map (·.nd)).Pairwise (· ≠ ·)) {pre post : List Mem} {p : Mem} (e : ms = pre ++ p :: post) (hk : p.nd = k) :
    plc ms k = (pre.length : Int) ∧ ms.filter (fun m => m.nd != k) = pre ++ post := by
  subst e
  rw [List.map_append, List.map_cons, List.pairwise_append, List.pairwise_cons] at hu
  obtain ⟨_, ⟨h1, _⟩, h2⟩ := hu
  have hpre : ∀ x ∈ pre, x.nd ≠ k := fun x hx => by rw [← hk]; exact h2 x.nd (List.mem_map.2 ⟨x, hx, rfl⟩) p.nd (List.mem_cons_self ..)
  have hpost : ∀ x ∈ post, x.nd ≠ k := fun x hx => by rw [← hk]; exact fun h => h1 x.nd (List.mem_map.2 ⟨x, hx, rfl⟩) h.symm
  constructor
  · refine plc_some (p := p) (by rw [List.getElem?_append_right (Nat.le_refl _), Nat.sub_self]; rfl) hk fun i q hi hq => ?_
    rw [List.getElem?_append_left hi] at hq
    exact hpre q (List.mem_of_getElem? hq)
  · rw [List.filter_append, List.filter_cons, if_neg (by simp [hk]), List.filter_eq_self.2 (fun x hx => by simpa using hpre x hx), List.filter_eq_self.2 (fun x hx => by simpa using hpost x hx)]

theorem shapes {pre post : List Mem} (h : pre.length + (post.length + 1) ≤ 4) (h1 : ¬ pre.length + (post.length + 1) = 1) :
    (pre = [] ∧ ∃ x, post = [x]) ∨ (pre = [] ∧ ∃ x y, post = [x, y]) ∨ (pre = [] ∧ ∃ x y z, post = [x, y, z]) ∨ (∃ x, pre = [x] ∧ post = []) ∨ (∃ x y, pre = [x] ∧ post = [y]) ∨ (∃ x y z, pre = [x] ∧ post = [y, z]) ∨
    (∃ x y, pre = [x, y] ∧ post = []) ∨ (∃ x y z, pre = [x, y] ∧ post = [z]) ∨ (∃ x y z, pre = [x, y, z] ∧ post = []) := by
  rcases pre with _ | ⟨a, _ | ⟨b, _ | ⟨c, _ | ⟨d, t⟩⟩⟩⟩ <;> rcases post with _ | ⟨e, _ | ⟨f, _ | ⟨g, _ | ⟨i, u⟩⟩⟩⟩ <;> first | (exfalso; simp at h h1; done) | (exfalso; simp at h h1; omega) | (exfalso; simp at h; omega) | simp
/-- With another count. -/
def Cfg.wn (c : Cfg) (n : Int) : Cfg := ⟨c.ep, n, c.f0, c.f1, c.f2, c.f3, c.jo, c.le⟩

set_option maxHeartbeats 1000000 in
theorem dropF_ct {c : Ch} (ok : ChOk c) (he : c.ep ≠ 1099511627776) (b nb : Nat) (k : Int) :
    Ct Try.prog 37 [.pointer (some ⟨b, 0, none⟩), .pointer (some ⟨nb, 0, none⟩)] [CfBk b c.on.cfg, NBk nb k]
      (fun r H' => ∃ c2, r = .bool (dropL c k).isSome ∧ H' = [CfBk b c2, NBk nb k] ∧ ∀ c', dropL c k = some c' → c2 = c'.cfg) := by
  have h4 := up_l4 ok
  have h1 := ok.l1
  have hup := up_ms ok
  have hrs := cfg_rs (c := c.on) h4 b
  have hix := idxWo_ct hrs nb k (by show c.ms.length ≤ 1000000; omega)
  refine Ct.mk' Try.func37 rfl rfl rfl (fun g R => ?_)
  try simp only [List.cons_append]
  simp only [List.nil_append]
  cases hl : c.ln with
  | some m =>
    have hj : c.on.cfg.jo = true := by show c.ln.isSome = true; rw [hl]; rfl
    have hle : c.on.cfg.le.nd = m.nd := by show (c.ln.getD Mem.z).nd = m.nd; rw [hl]; rfl
    by_cases hmk : m.nd = k
    · have ha : dropL c k = some ⟨c.ep + 1, c.ms, none⟩ := by unfold dropL; rw [if_neg he, if_pos (by rw [hl]; simp [hmk])]
      repeat' (first | refine go ?_ | refine asg ?_ | fail)
      refine W.quiet Try.mix (by kernel_rfl) ?_
      repeat' (first | refine mv ?_ | (refine I.ld ?_; refine ld rfl ?_) | (refine I.fa ?_; refine fa ?_) | (refine I.nc ?_; refine nc ?_) | fail)
      rw [hj]
      repeat' (first | refine go ?_ | refine mv ?_ | (refine I.ld ?_; refine ld rfl ?_) | refine asg ?_ | (refine I.gd ?_; refine gy ?_) | (refine I.fa ?_; refine fa ?_) | (refine I.nc ?_; refine nc ?_) | (refine I.bin ?_; refine cm rfl rfl ?_) | (refine I.pk ?_; refine pT ?_) | (refine I.cond ?_; refine cP ?_) | (refine I.st ?_; first | refine st rfl rfl ?_ | refine sG rfl rfl ?_) | refine bd ?_ | fail)
      refine D.flat (H' := [CfBk b (Ch.cfg ⟨c.ep + 1, c.ms, none⟩), NBk nb k, R]) rfl ?_
      rw [ha]
      exact D.fin1 [CfBk b (Ch.cfg ⟨c.ep + 1, c.ms, none⟩), NBk nb k] _ rfl rfl ⟨_, rfl, rfl, fun c' h => by cases h; rfl⟩
    · have hnl : c.ln.any (fun m => m.nd == k) = false := by rw [hl]; simp [hmk]
      repeat' (first | refine go ?_ | refine asg ?_ | fail)
      refine W.quiet Try.mix (by kernel_rfl) ?_
      repeat' (first | refine mv ?_ | (refine I.ld ?_; refine ld rfl ?_) | (refine I.fa ?_; refine fa ?_) | (refine I.nc ?_; refine nc ?_) | fail)
      rw [hj]
      repeat' (first | refine go ?_ | refine mv ?_ | (refine I.ld ?_; refine ld rfl ?_) | (refine I.gd ?_; refine gy ?_) | (refine I.fa ?_; refine fa ?_) | (refine I.nc ?_; refine nc ?_) | (refine I.bin ?_; refine cm rfl rfl ?_) | (refine I.pk ?_; refine pT ?_) | (refine I.cond ?_; refine cN ?_) | fail)
      refine W.quiet Try.mix (by kernel_rfl) ?_
      repeat' (first | refine mv ?_ | (refine I.ld ?_; refine ld rfl ?_) | (refine I.fa ?_; refine fa ?_) | (refine I.nc ?_; refine nc ?_) | fail)
      refine WX.arTo (hi := c.ms.length) rfl rfl h4 rfl ?_
      repeat' (first | (refine WX.makeFunc (first := []) rfl rfl rfl ?_) | fail)
      refine WX.callQ rfl hix rfl ?_
      by_cases hh : c.has k = true
      · obtain ⟨p, hp, hpk⟩ := Ch.has_iff.1 hh
        obtain ⟨pre, post, e⟩ := List.append_of_mem hp
        obtain ⟨g1, g2⟩ := at_node hup e hpk
        have g1 : plc c.on.ms k = (pre.length : Int) := g1
        by_cases hone : c.ms.length = 1
        · have ha : dropL c k = none := by unfold dropL; rw [if_neg he, if_neg (by rw [hnl]; decide), if_pos (.inr hone)]
          have hnn : c.on.cfg.n = 1 := by show (c.ms.length : Int) = 1; omega
          rw [g1]
          repeat' (first | refine go ?_ | refine mv ?_ | (refine I.ld ?_; refine ld rfl ?_) | refine asg ?_ | (refine I.gd ?_; refine gy ?_) | (refine I.fa ?_; refine fa ?_) | (refine I.nc ?_; refine nc ?_) | (refine I.bin ?_; refine cm rfl rfl ?_) | (refine I.pk ?_; refine pF ?_) | (refine I.cond ?_; refine cP ?_) | fail)
          rw [ha]
          exact D.fin1 [CfBk b c.on.cfg, NBk nb k] _ rfl rfl ⟨_, rfl, rfl, fun c' h => by cases h⟩
        · have ha : dropL c k = some ⟨c.ep + 1, pre ++ post, c.ln⟩ := by
            unfold dropL
            rw [if_neg he, if_neg (by rw [hnl]; decide), if_neg (by rintro (h | h); · rw [hh] at h; cases h
                                                                    · exact hone h), g2]
          rw [ha]
          obtain ⟨ep, ms, ln⟩ := c
          simp only [] at e hone h4
          subst e
          rw [List.length_append, List.length_cons] at h4 hone
          rcases shapes h4 hone with ⟨rfl, x, rfl⟩ | ⟨rfl, x, y, rfl⟩ | ⟨rfl, x, y, z, rfl⟩ | ⟨x, rfl, rfl⟩ | ⟨x, y, rfl, rfl⟩ | ⟨x, y, z, rfl, rfl⟩ | ⟨x, y, rfl, rfl⟩ | ⟨x, y, z, rfl, rfl⟩ | ⟨x, y, z, rfl, rfl⟩
          · have gq : plc (Ch.on ⟨ep, [] ++ p :: [x], ln⟩).ms k = 0 := g1
            have hnn : (Ch.on ⟨ep, [] ++ p :: [x], ln⟩).cfg.n = 2 := rfl
            rw [gq]
            repeat' (first | refine go ?_ | refine mv ?_ | (refine I.ld ?_; refine ld rfl ?_) | refine asg ?_ | (refine I.gd ?_; refine gy ?_) | (refine I.fa ?_; refine fa ?_) | (refine I.nc ?_; refine nc ?_) | (refine I.bin ?_; refine cm rfl rfl ?_) | (refine I.pk ?_; refine pF ?_) | (refine I.cond ?_; refine cF ?_) | fail)
            refine W.mixN 8 (List.replicate 15 true) [CfBk b (Ch.on ⟨ep, [] ++ p :: [x], ln⟩).cfg] Try.mix (by kernel_rfl) ?_
            repeat' (first | refine go ?_ | refine mv ?_ | (refine I.fa ?_; refine fa ?_) | (refine I.nc ?_; refine nc ?_) | refine mU ?_ | fail)
            refine WX.arFrom (len := 4) (lo := 0) rfl rfl (by decide) rfl ?_
            repeat' (first | refine go ?_ | refine mv ?_ | (refine I.ld ?_; refine ld rfl ?_) | (refine I.fa ?_; refine fa ?_) | (refine I.nc ?_; refine nc ?_) | (refine I.bin ?_; refine ad ?_) | refine mU ?_ | fail)
            refine WX.arCut (len := 4) (lo := 0 + 1) (hi := 2) rfl rfl rfl (by decide) (by decide) rfl ?_
            repeat' (first | refine go ?_ | refine mN ?_ | fail)
            refine WX.copyIn rfl rfl rfl rfl rfl rfl rfl ?_
            repeat' (first | refine go ?_ | refine mv ?_ | (refine I.ld ?_; refine ld rfl ?_) | (refine I.fa ?_; refine fa ?_) | (refine I.nc ?_; refine nc ?_) | (refine I.bin ?_; refine su ?_) | (refine I.st ?_; refine st rfl rfl ?_) | fail)
            have hn2 : (Cfg.wn (Ch.cfg ⟨ep + 1, [] ++ [x] ++ [x], ln⟩) 1).n = 1 := rfl
            refine W.flat (H' := [CfBk b (Cfg.wn (Ch.cfg ⟨ep + 1, [] ++ [x] ++ [x], ln⟩) 1), NBk nb k, R]) rfl ?_
            refine W.mixN 8 (List.replicate 9 true) [CfBk b (Cfg.wn (Ch.cfg ⟨ep + 1, [] ++ [x] ++ [x], ln⟩) 1)] Try.mix (by kernel_rfl) ?_
            repeat' (first | refine go ?_ | refine mv ?_ | (refine I.ld ?_; refine ld rfl ?_) | refine asg ?_ | (refine I.fa ?_; refine fa ?_) | (refine I.nc ?_; refine nc ?_) | refine mN ?_ | refine mU ?_ | (refine I.ix ?_; refine iP ?_) | (refine I.st ?_; refine sG rfl rfl ?_) | refine bd ?_ | fail)
            refine D.flat (H' := [CfBk b (Ch.cfg ⟨ep + 1, [] ++ [x], ln⟩), NBk nb k, R]) rfl ?_
            exact D.fin1 [CfBk b (Ch.cfg ⟨ep + 1, [] ++ [x], ln⟩), NBk nb k] _ rfl rfl ⟨_, rfl, rfl, fun c' h => by cases h; rfl⟩
          · have gq : plc (Ch.on ⟨ep, [] ++ p :: [x, y], ln⟩).ms k = 0 := g1
            have hnn : (Ch.on ⟨ep, [] ++ p :: [x, y], ln⟩).cfg.n = 3 := rfl
            rw [gq]
            repeat' (first | refine go ?_ | refine mv ?_ | (refine I.ld ?_; refine ld rfl ?_) | refine asg ?_ | (refine I.gd ?_; refine gy ?_) | (refine I.fa ?_; refine fa ?_) | (refine I.nc ?_; refine nc ?_) | (refine I.bin ?_; refine cm rfl rfl ?_) | (refine I.pk ?_; refine pF ?_) | (refine I.cond ?_; refine cF ?_) | fail)
            refine W.mixN 8 (List.replicate 15 true) [CfBk b (Ch.on ⟨ep, [] ++ p :: [x, y], ln⟩).cfg] Try.mix (by kernel_rfl) ?_
            repeat' (first | refine go ?_ | refine mv ?_ | (refine I.fa ?_; refine fa ?_) | (refine I.nc ?_; refine nc ?_) | refine mU ?_ | fail)
            refine WX.arFrom (len := 4) (lo := 0) rfl rfl (by decide) rfl ?_
            repeat' (first | refine go ?_ | refine mv ?_ | (refine I.ld ?_; refine ld rfl ?_) | (refine I.fa ?_; refine fa ?_) | (refine I.nc ?_; refine nc ?_) | (refine I.bin ?_; refine ad ?_) | refine mU ?_ | fail)
            refine WX.arCut (len := 4) (lo := 0 + 1) (hi := 3) rfl rfl rfl (by decide) (by decide) rfl ?_
            repeat' (first | refine go ?_ | refine mN ?_ | fail)
            refine WX.copyIn rfl rfl rfl rfl rfl rfl rfl ?_
            repeat' (first | refine go ?_ | refine mv ?_ | (refine I.ld ?_; refine ld rfl ?_) | (refine I.fa ?_; refine fa ?_) | (refine I.nc ?_; refine nc ?_) | (refine I.bin ?_; refine su ?_) | (refine I.st ?_; refine st rfl rfl ?_) | fail)
            have hn2 : (Cfg.wn (Ch.cfg ⟨ep + 1, [] ++ [x, y] ++ [y], ln⟩) 2).n = 2 := rfl
            refine W.flat (H' := [CfBk b (Cfg.wn (Ch.cfg ⟨ep + 1, [] ++ [x, y] ++ [y], ln⟩) 2), NBk nb k, R]) rfl ?_
            refine W.mixN 8 (List.replicate 9 true) [CfBk b (Cfg.wn (Ch.cfg ⟨ep + 1, [] ++ [x, y] ++ [y], ln⟩) 2)] Try.mix (by kernel_rfl) ?_
            repeat' (first | refine go ?_ | refine mv ?_ | (refine I.ld ?_; refine ld rfl ?_) | refine asg ?_ | (refine I.fa ?_; refine fa ?_) | (refine I.nc ?_; refine nc ?_) | refine mN ?_ | refine mU ?_ | (refine I.ix ?_; refine iP ?_) | (refine I.st ?_; refine sG rfl rfl ?_) | refine bd ?_ | fail)
            refine D.flat (H' := [CfBk b (Ch.cfg ⟨ep + 1, [] ++ [x, y], ln⟩), NBk nb k, R]) rfl ?_
            exact D.fin1 [CfBk b (Ch.cfg ⟨ep + 1, [] ++ [x, y], ln⟩), NBk nb k] _ rfl rfl ⟨_, rfl, rfl, fun c' h => by cases h; rfl⟩
          · have gq : plc (Ch.on ⟨ep, [] ++ p :: [x, y, z], ln⟩).ms k = 0 := g1
            have hnn : (Ch.on ⟨ep, [] ++ p :: [x, y, z], ln⟩).cfg.n = 4 := rfl
            rw [gq]
            repeat' (first | refine go ?_ | refine mv ?_ | (refine I.ld ?_; refine ld rfl ?_) | refine asg ?_ | (refine I.gd ?_; refine gy ?_) | (refine I.fa ?_; refine fa ?_) | (refine I.nc ?_; refine nc ?_) | (refine I.bin ?_; refine cm rfl rfl ?_) | (refine I.pk ?_; refine pF ?_) | (refine I.cond ?_; refine cF ?_) | fail)
            refine W.mixN 8 (List.replicate 15 true) [CfBk b (Ch.on ⟨ep, [] ++ p :: [x, y, z], ln⟩).cfg] Try.mix (by kernel_rfl) ?_
            repeat' (first | refine go ?_ | refine mv ?_ | (refine I.fa ?_; refine fa ?_) | (refine I.nc ?_; refine nc ?_) | refine mU ?_ | fail)
            refine WX.arFrom (len := 4) (lo := 0) rfl rfl (by decide) rfl ?_
            repeat' (first | refine go ?_ | refine mv ?_ | (refine I.ld ?_; refine ld rfl ?_) | (refine I.fa ?_; refine fa ?_) | (refine I.nc ?_; refine nc ?_) | (refine I.bin ?_; refine ad ?_) | refine mU ?_ | fail)
            refine WX.arCut (len := 4) (lo := 0 + 1) (hi := 4) rfl rfl rfl (by decide) (by decide) rfl ?_
            repeat' (first | refine go ?_ | refine mN ?_ | fail)
            refine WX.copyIn rfl rfl rfl rfl rfl rfl rfl ?_
            repeat' (first | refine go ?_ | refine mv ?_ | (refine I.ld ?_; refine ld rfl ?_) | (refine I.fa ?_; refine fa ?_) | (refine I.nc ?_; refine nc ?_) | (refine I.bin ?_; refine su ?_) | (refine I.st ?_; refine st rfl rfl ?_) | fail)
            have hn2 : (Cfg.wn (Ch.cfg ⟨ep + 1, [] ++ [x, y, z] ++ [z], ln⟩) 3).n = 3 := rfl
            refine W.flat (H' := [CfBk b (Cfg.wn (Ch.cfg ⟨ep + 1, [] ++ [x, y, z] ++ [z], ln⟩) 3), NBk nb k, R]) rfl ?_
            refine W.mixN 8 (List.replicate 9 true) [CfBk b (Cfg.wn (Ch.cfg ⟨ep + 1, [] ++ [x, y, z] ++ [z], ln⟩) 3)] Try.mix (by kernel_rfl) ?_
            repeat' (first | refine go ?_ | refine mv ?_ | (refine I.ld ?_; refine ld rfl ?_) | refine asg ?_ | (refine I.fa ?_; refine fa ?_) | (refine I.nc ?_; refine nc ?_) | refine mN ?_ | refine mU ?_ | (refine I.ix ?_; refine iP ?_) | (refine I.st ?_; refine sG rfl rfl ?_) | refine bd ?_ | fail)
            refine D.flat (H' := [CfBk b (Ch.cfg ⟨ep + 1, [] ++ [x, y, z], ln⟩), NBk nb k, R]) rfl ?_
            exact D.fin1 [CfBk b (Ch.cfg ⟨ep + 1, [] ++ [x, y, z], ln⟩), NBk nb k] _ rfl rfl ⟨_, rfl, rfl, fun c' h => by cases h; rfl⟩
          · have gq : plc (Ch.on ⟨ep, [x] ++ p :: [], ln⟩).ms k = 1 := g1
            have hnn : (Ch.on ⟨ep, [x] ++ p :: [], ln⟩).cfg.n = 2 := rfl
            rw [gq]
            repeat' (first | refine go ?_ | refine mv ?_ | (refine I.ld ?_; refine ld rfl ?_) | refine asg ?_ | (refine I.gd ?_; refine gy ?_) | (refine I.fa ?_; refine fa ?_) | (refine I.nc ?_; refine nc ?_) | (refine I.bin ?_; refine cm rfl rfl ?_) | (refine I.pk ?_; refine pF ?_) | (refine I.cond ?_; refine cF ?_) | fail)
            refine W.mixN 8 (List.replicate 15 true) [CfBk b (Ch.on ⟨ep, [x] ++ p :: [], ln⟩).cfg] Try.mix (by kernel_rfl) ?_
            repeat' (first | refine go ?_ | refine mv ?_ | (refine I.fa ?_; refine fa ?_) | (refine I.nc ?_; refine nc ?_) | refine mU ?_ | fail)
            refine WX.arFrom (len := 4) (lo := 1) rfl rfl (by decide) rfl ?_
            repeat' (first | refine go ?_ | refine mv ?_ | (refine I.ld ?_; refine ld rfl ?_) | (refine I.fa ?_; refine fa ?_) | (refine I.nc ?_; refine nc ?_) | (refine I.bin ?_; refine ad ?_) | refine mU ?_ | fail)
            refine WX.arCut (len := 4) (lo := 1 + 1) (hi := 2) rfl rfl rfl (by decide) (by decide) rfl ?_
            repeat' (first | refine go ?_ | refine mN ?_ | fail)
            refine WX.copyIn rfl rfl rfl rfl rfl rfl rfl ?_
            repeat' (first | refine go ?_ | refine mv ?_ | (refine I.ld ?_; refine ld rfl ?_) | (refine I.fa ?_; refine fa ?_) | (refine I.nc ?_; refine nc ?_) | (refine I.bin ?_; refine su ?_) | (refine I.st ?_; refine st rfl rfl ?_) | fail)
            have hn2 : (Cfg.wn (Ch.cfg ⟨ep + 1, [x] ++ [] ++ [p], ln⟩) 1).n = 1 := rfl
            refine W.flat (H' := [CfBk b (Cfg.wn (Ch.cfg ⟨ep + 1, [x] ++ [] ++ [p], ln⟩) 1), NBk nb k, R]) rfl ?_
            refine W.mixN 8 (List.replicate 9 true) [CfBk b (Cfg.wn (Ch.cfg ⟨ep + 1, [x] ++ [] ++ [p], ln⟩) 1)] Try.mix (by kernel_rfl) ?_
            repeat' (first | refine go ?_ | refine mv ?_ | (refine I.ld ?_; refine ld rfl ?_) | refine asg ?_ | (refine I.fa ?_; refine fa ?_) | (refine I.nc ?_; refine nc ?_) | refine mN ?_ | refine mU ?_ | (refine I.ix ?_; refine iP ?_) | (refine I.st ?_; refine sG rfl rfl ?_) | refine bd ?_ | fail)
            refine D.flat (H' := [CfBk b (Ch.cfg ⟨ep + 1, [x] ++ [], ln⟩), NBk nb k, R]) rfl ?_
            exact D.fin1 [CfBk b (Ch.cfg ⟨ep + 1, [x] ++ [], ln⟩), NBk nb k] _ rfl rfl ⟨_, rfl, rfl, fun c' h => by cases h; rfl⟩
          · have gq : plc (Ch.on ⟨ep, [x] ++ p :: [y], ln⟩).ms k = 1 := g1
            have hnn : (Ch.on ⟨ep, [x] ++ p :: [y], ln⟩).cfg.n = 3 := rfl
            rw [gq]
            repeat' (first | refine go ?_ | refine mv ?_ | (refine I.ld ?_; refine ld rfl ?_) | refine asg ?_ | (refine I.gd ?_; refine gy ?_) | (refine I.fa ?_; refine fa ?_) | (refine I.nc ?_; refine nc ?_) | (refine I.bin ?_; refine cm rfl rfl ?_) | (refine I.pk ?_; refine pF ?_) | (refine I.cond ?_; refine cF ?_) | fail)
            refine W.mixN 8 (List.replicate 15 true) [CfBk b (Ch.on ⟨ep, [x] ++ p :: [y], ln⟩).cfg] Try.mix (by kernel_rfl) ?_
            repeat' (first | refine go ?_ | refine mv ?_ | (refine I.fa ?_; refine fa ?_) | (refine I.nc ?_; refine nc ?_) | refine mU ?_ | fail)
            refine WX.arFrom (len := 4) (lo := 1) rfl rfl (by decide) rfl ?_
            repeat' (first | refine go ?_ | refine mv ?_ | (refine I.ld ?_; refine ld rfl ?_) | (refine I.fa ?_; refine fa ?_) | (refine I.nc ?_; refine nc ?_) | (refine I.bin ?_; refine ad ?_) | refine mU ?_ | fail)
            refine WX.arCut (len := 4) (lo := 1 + 1) (hi := 3) rfl rfl rfl (by decide) (by decide) rfl ?_
            repeat' (first | refine go ?_ | refine mN ?_ | fail)
            refine WX.copyIn rfl rfl rfl rfl rfl rfl rfl ?_
            repeat' (first | refine go ?_ | refine mv ?_ | (refine I.ld ?_; refine ld rfl ?_) | (refine I.fa ?_; refine fa ?_) | (refine I.nc ?_; refine nc ?_) | (refine I.bin ?_; refine su ?_) | (refine I.st ?_; refine st rfl rfl ?_) | fail)
            have hn2 : (Cfg.wn (Ch.cfg ⟨ep + 1, [x] ++ [y] ++ [y], ln⟩) 2).n = 2 := rfl
            refine W.flat (H' := [CfBk b (Cfg.wn (Ch.cfg ⟨ep + 1, [x] ++ [y] ++ [y], ln⟩) 2), NBk nb k, R]) rfl ?_
            refine W.mixN 8 (List.replicate 9 true) [CfBk b (Cfg.wn (Ch.cfg ⟨ep + 1, [x] ++ [y] ++ [y], ln⟩) 2)] Try.mix (by kernel_rfl) ?_
            repeat' (first | refine go ?_ | refine mv ?_ | (refine I.ld ?_; refine ld rfl ?_) | refine asg ?_ | (refine I.fa ?_; refine fa ?_) | (refine I.nc ?_; refine nc ?_) | refine mN ?_ | refine mU ?_ | (refine I.ix ?_; refine iP ?_) | (refine I.st ?_; refine sG rfl rfl ?_) | refine bd ?_ | fail)
            refine D.flat (H' := [CfBk b (Ch.cfg ⟨ep + 1, [x] ++ [y], ln⟩), NBk nb k, R]) rfl ?_
            exact D.fin1 [CfBk b (Ch.cfg ⟨ep + 1, [x] ++ [y], ln⟩), NBk nb k] _ rfl rfl ⟨_, rfl, rfl, fun c' h => by cases h; rfl⟩
          · have gq : plc (Ch.on ⟨ep, [x] ++ p :: [y, z], ln⟩).ms k = 1 := g1
            have hnn : (Ch.on ⟨ep, [x] ++ p :: [y, z], ln⟩).cfg.n = 4 := rfl
            rw [gq]
            repeat' (first | refine go ?_ | refine mv ?_ | (refine I.ld ?_; refine ld rfl ?_) | refine asg ?_ | (refine I.gd ?_; refine gy ?_) | (refine I.fa ?_; refine fa ?_) | (refine I.nc ?_; refine nc ?_) | (refine I.bin ?_; refine cm rfl rfl ?_) | (refine I.pk ?_; refine pF ?_) | (refine I.cond ?_; refine cF ?_) | fail)
            refine W.mixN 8 (List.replicate 15 true) [CfBk b (Ch.on ⟨ep, [x] ++ p :: [y, z], ln⟩).cfg] Try.mix (by kernel_rfl) ?_
            repeat' (first | refine go ?_ | refine mv ?_ | (refine I.fa ?_; refine fa ?_) | (refine I.nc ?_; refine nc ?_) | refine mU ?_ | fail)
            refine WX.arFrom (len := 4) (lo := 1) rfl rfl (by decide) rfl ?_
            repeat' (first | refine go ?_ | refine mv ?_ | (refine I.ld ?_; refine ld rfl ?_) | (refine I.fa ?_; refine fa ?_) | (refine I.nc ?_; refine nc ?_) | (refine I.bin ?_; refine ad ?_) | refine mU ?_ | fail)
            refine WX.arCut (len := 4) (lo := 1 + 1) (hi := 4) rfl rfl rfl (by decide) (by decide) rfl ?_
            repeat' (first | refine go ?_ | refine mN ?_ | fail)
            refine WX.copyIn rfl rfl rfl rfl rfl rfl rfl ?_
            repeat' (first | refine go ?_ | refine mv ?_ | (refine I.ld ?_; refine ld rfl ?_) | (refine I.fa ?_; refine fa ?_) | (refine I.nc ?_; refine nc ?_) | (refine I.bin ?_; refine su ?_) | (refine I.st ?_; refine st rfl rfl ?_) | fail)
            have hn2 : (Cfg.wn (Ch.cfg ⟨ep + 1, [x] ++ [y, z] ++ [z], ln⟩) 3).n = 3 := rfl
            refine W.flat (H' := [CfBk b (Cfg.wn (Ch.cfg ⟨ep + 1, [x] ++ [y, z] ++ [z], ln⟩) 3), NBk nb k, R]) rfl ?_
            refine W.mixN 8 (List.replicate 9 true) [CfBk b (Cfg.wn (Ch.cfg ⟨ep + 1, [x] ++ [y, z] ++ [z], ln⟩) 3)] Try.mix (by kernel_rfl) ?_
            repeat' (first | refine go ?_ | refine mv ?_ | (refine I.ld ?_; refine ld rfl ?_) | refine asg ?_ | (refine I.fa ?_; refine fa ?_) | (refine I.nc ?_; refine nc ?_) | refine mN ?_ | refine mU ?_ | (refine I.ix ?_; refine iP ?_) | (refine I.st ?_; refine sG rfl rfl ?_) | refine bd ?_ | fail)
            refine D.flat (H' := [CfBk b (Ch.cfg ⟨ep + 1, [x] ++ [y, z], ln⟩), NBk nb k, R]) rfl ?_
            exact D.fin1 [CfBk b (Ch.cfg ⟨ep + 1, [x] ++ [y, z], ln⟩), NBk nb k] _ rfl rfl ⟨_, rfl, rfl, fun c' h => by cases h; rfl⟩
          · have gq : plc (Ch.on ⟨ep, [x, y] ++ p :: [], ln⟩).ms k = 2 := g1
            have hnn : (Ch.on ⟨ep, [x, y] ++ p :: [], ln⟩).cfg.n = 3 := rfl
            rw [gq]
            repeat' (first | refine go ?_ | refine mv ?_ | (refine I.ld ?_; refine ld rfl ?_) | refine asg ?_ | (refine I.gd ?_; refine gy ?_) | (refine I.fa ?_; refine fa ?_) | (refine I.nc ?_; refine nc ?_) | (refine I.bin ?_; refine cm rfl rfl ?_) | (refine I.pk ?_; refine pF ?_) | (refine I.cond ?_; refine cF ?_) | fail)
            refine W.mixN 8 (List.replicate 15 true) [CfBk b (Ch.on ⟨ep, [x, y] ++ p :: [], ln⟩).cfg] Try.mix (by kernel_rfl) ?_
            repeat' (first | refine go ?_ | refine mv ?_ | (refine I.fa ?_; refine fa ?_) | (refine I.nc ?_; refine nc ?_) | refine mU ?_ | fail)
            refine WX.arFrom (len := 4) (lo := 2) rfl rfl (by decide) rfl ?_
            repeat' (first | refine go ?_ | refine mv ?_ | (refine I.ld ?_; refine ld rfl ?_) | (refine I.fa ?_; refine fa ?_) | (refine I.nc ?_; refine nc ?_) | (refine I.bin ?_; refine ad ?_) | refine mU ?_ | fail)
            refine WX.arCut (len := 4) (lo := 2 + 1) (hi := 3) rfl rfl rfl (by decide) (by decide) rfl ?_
            repeat' (first | refine go ?_ | refine mN ?_ | fail)
            refine WX.copyIn rfl rfl rfl rfl rfl rfl rfl ?_
            repeat' (first | refine go ?_ | refine mv ?_ | (refine I.ld ?_; refine ld rfl ?_) | (refine I.fa ?_; refine fa ?_) | (refine I.nc ?_; refine nc ?_) | (refine I.bin ?_; refine su ?_) | (refine I.st ?_; refine st rfl rfl ?_) | fail)
            have hn2 : (Cfg.wn (Ch.cfg ⟨ep + 1, [x, y] ++ [] ++ [p], ln⟩) 2).n = 2 := rfl
            refine W.flat (H' := [CfBk b (Cfg.wn (Ch.cfg ⟨ep + 1, [x, y] ++ [] ++ [p], ln⟩) 2), NBk nb k, R]) rfl ?_
            refine W.mixN 8 (List.replicate 9 true) [CfBk b (Cfg.wn (Ch.cfg ⟨ep + 1, [x, y] ++ [] ++ [p], ln⟩) 2)] Try.mix (by kernel_rfl) ?_
            repeat' (first | refine go ?_ | refine mv ?_ | (refine I.ld ?_; refine ld rfl ?_) | refine asg ?_ | (refine I.fa ?_; refine fa ?_) | (refine I.nc ?_; refine nc ?_) | refine mN ?_ | refine mU ?_ | (refine I.ix ?_; refine iP ?_) | (refine I.st ?_; refine sG rfl rfl ?_) | refine bd ?_ | fail)
            refine D.flat (H' := [CfBk b (Ch.cfg ⟨ep + 1, [x, y] ++ [], ln⟩), NBk nb k, R]) rfl ?_
            exact D.fin1 [CfBk b (Ch.cfg ⟨ep + 1, [x, y] ++ [], ln⟩), NBk nb k] _ rfl rfl ⟨_, rfl, rfl, fun c' h => by cases h; rfl⟩
          · have gq : plc (Ch.on ⟨ep, [x, y] ++ p :: [z], ln⟩).ms k = 2 := g1
            have hnn : (Ch.on ⟨ep, [x, y] ++ p :: [z], ln⟩).cfg.n = 4 := rfl
            rw [gq]
            repeat' (first | refine go ?_ | refine mv ?_ | (refine I.ld ?_; refine ld rfl ?_) | refine asg ?_ | (refine I.gd ?_; refine gy ?_) | (refine I.fa ?_; refine fa ?_) | (refine I.nc ?_; refine nc ?_) | (refine I.bin ?_; refine cm rfl rfl ?_) | (refine I.pk ?_; refine pF ?_) | (refine I.cond ?_; refine cF ?_) | fail)
            refine W.mixN 8 (List.replicate 15 true) [CfBk b (Ch.on ⟨ep, [x, y] ++ p :: [z], ln⟩).cfg] Try.mix (by kernel_rfl) ?_
            repeat' (first | refine go ?_ | refine mv ?_ | (refine I.fa ?_; refine fa ?_) | (refine I.nc ?_; refine nc ?_) | refine mU ?_ | fail)
            refine WX.arFrom (len := 4) (lo := 2) rfl rfl (by decide) rfl ?_
            repeat' (first | refine go ?_ | refine mv ?_ | (refine I.ld ?_; refine ld rfl ?_) | (refine I.fa ?_; refine fa ?_) | (refine I.nc ?_; refine nc ?_) | (refine I.bin ?_; refine ad ?_) | refine mU ?_ | fail)
            refine WX.arCut (len := 4) (lo := 2 + 1) (hi := 4) rfl rfl rfl (by decide) (by decide) rfl ?_
            repeat' (first | refine go ?_ | refine mN ?_ | fail)
            refine WX.copyIn rfl rfl rfl rfl rfl rfl rfl ?_
            repeat' (first | refine go ?_ | refine mv ?_ | (refine I.ld ?_; refine ld rfl ?_) | (refine I.fa ?_; refine fa ?_) | (refine I.nc ?_; refine nc ?_) | (refine I.bin ?_; refine su ?_) | (refine I.st ?_; refine st rfl rfl ?_) | fail)
            have hn2 : (Cfg.wn (Ch.cfg ⟨ep + 1, [x, y] ++ [z] ++ [z], ln⟩) 3).n = 3 := rfl
            refine W.flat (H' := [CfBk b (Cfg.wn (Ch.cfg ⟨ep + 1, [x, y] ++ [z] ++ [z], ln⟩) 3), NBk nb k, R]) rfl ?_
            refine W.mixN 8 (List.replicate 9 true) [CfBk b (Cfg.wn (Ch.cfg ⟨ep + 1, [x, y] ++ [z] ++ [z], ln⟩) 3)] Try.mix (by kernel_rfl) ?_
            repeat' (first | refine go ?_ | refine mv ?_ | (refine I.ld ?_; refine ld rfl ?_) | refine asg ?_ | (refine I.fa ?_; refine fa ?_) | (refine I.nc ?_; refine nc ?_) | refine mN ?_ | refine mU ?_ | (refine I.ix ?_; refine iP ?_) | (refine I.st ?_; refine sG rfl rfl ?_) | refine bd ?_ | fail)
            refine D.flat (H' := [CfBk b (Ch.cfg ⟨ep + 1, [x, y] ++ [z], ln⟩), NBk nb k, R]) rfl ?_
            exact D.fin1 [CfBk b (Ch.cfg ⟨ep + 1, [x, y] ++ [z], ln⟩), NBk nb k] _ rfl rfl ⟨_, rfl, rfl, fun c' h => by cases h; rfl⟩
          · have gq : plc (Ch.on ⟨ep, [x, y, z] ++ p :: [], ln⟩).ms k = 3 := g1
            have hnn : (Ch.on ⟨ep, [x, y, z] ++ p :: [], ln⟩).cfg.n = 4 := rfl
            rw [gq]
            repeat' (first | refine go ?_ | refine mv ?_ | (refine I.ld ?_; refine ld rfl ?_) | refine asg ?_ | (refine I.gd ?_; refine gy ?_) | (refine I.fa ?_; refine fa ?_) | (refine I.nc ?_; refine nc ?_) | (refine I.bin ?_; refine cm rfl rfl ?_) | (refine I.pk ?_; refine pF ?_) | (refine I.cond ?_; refine cF ?_) | fail)
            refine W.mixN 8 (List.replicate 15 true) [CfBk b (Ch.on ⟨ep, [x, y, z] ++ p :: [], ln⟩).cfg] Try.mix (by kernel_rfl) ?_
            repeat' (first | refine go ?_ | refine mv ?_ | (refine I.fa ?_; refine fa ?_) | (refine I.nc ?_; refine nc ?_) | refine mU ?_ | fail)
            refine WX.arFrom (len := 4) (lo := 3) rfl rfl (by decide) rfl ?_
            repeat' (first | refine go ?_ | refine mv ?_ | (refine I.ld ?_; refine ld rfl ?_) | (refine I.fa ?_; refine fa ?_) | (refine I.nc ?_; refine nc ?_) | (refine I.bin ?_; refine ad ?_) | refine mU ?_ | fail)
            refine WX.arCut (len := 4) (lo := 3 + 1) (hi := 4) rfl rfl rfl (by decide) (by decide) rfl ?_
            repeat' (first | refine go ?_ | refine mN ?_ | fail)
            refine WX.copyIn rfl rfl rfl rfl rfl rfl rfl ?_
            repeat' (first | refine go ?_ | refine mv ?_ | (refine I.ld ?_; refine ld rfl ?_) | (refine I.fa ?_; refine fa ?_) | (refine I.nc ?_; refine nc ?_) | (refine I.bin ?_; refine su ?_) | (refine I.st ?_; refine st rfl rfl ?_) | fail)
            have hn2 : (Cfg.wn (Ch.cfg ⟨ep + 1, [x, y, z] ++ [] ++ [p], ln⟩) 3).n = 3 := rfl
            refine W.flat (H' := [CfBk b (Cfg.wn (Ch.cfg ⟨ep + 1, [x, y, z] ++ [] ++ [p], ln⟩) 3), NBk nb k, R]) rfl ?_
            refine W.mixN 8 (List.replicate 9 true) [CfBk b (Cfg.wn (Ch.cfg ⟨ep + 1, [x, y, z] ++ [] ++ [p], ln⟩) 3)] Try.mix (by kernel_rfl) ?_
            repeat' (first | refine go ?_ | refine mv ?_ | (refine I.ld ?_; refine ld rfl ?_) | refine asg ?_ | (refine I.fa ?_; refine fa ?_) | (refine I.nc ?_; refine nc ?_) | refine mN ?_ | refine mU ?_ | (refine I.ix ?_; refine iP ?_) | (refine I.st ?_; refine sG rfl rfl ?_) | refine bd ?_ | fail)
            refine D.flat (H' := [CfBk b (Ch.cfg ⟨ep + 1, [x, y, z] ++ [], ln⟩), NBk nb k, R]) rfl ?_
            exact D.fin1 [CfBk b (Ch.cfg ⟨ep + 1, [x, y, z] ++ [], ln⟩), NBk nb k] _ rfl rfl ⟨_, rfl, rfl, fun c' h => by cases h; rfl⟩
      · have hno : c.has k = false := by cases h : c.has k with | false => rfl | true => exact absurd h hh
        have ha : dropL c k = none := by unfold dropL; rw [if_neg he, if_neg (by rw [hnl]; decide), if_pos (.inl hno)]
        have g1 : plc c.on.ms k = -1 := plc_none fun q hq h => hh (Ch.has_iff.2 ⟨q, hq, h⟩)
        rw [g1]
        repeat' (first | refine go ?_ | refine mv ?_ | refine asg ?_ | (refine I.gd ?_; refine gn ?_) | (refine I.bin ?_; refine cm rfl rfl ?_) | (refine I.pk ?_; refine pT ?_) | (refine I.cond ?_; refine cT ?_) | fail)
        rw [ha]
        exact D.fin1 [CfBk b c.on.cfg, NBk nb k] _ rfl rfl ⟨_, rfl, rfl, fun c' h => by cases h⟩
  | none =>
    have hj : c.on.cfg.jo = false := by show c.ln.isSome = false; rw [hl]; rfl
    have hnl : c.ln.any (fun m => m.nd == k) = false := by rw [hl]; rfl
    repeat' (first | refine go ?_ | refine asg ?_ | fail)
    refine W.quiet Try.mix (by kernel_rfl) ?_
    repeat' (first | refine mv ?_ | (refine I.ld ?_; refine ld rfl ?_) | (refine I.fa ?_; refine fa ?_) | (refine I.nc ?_; refine nc ?_) | fail)
    rw [hj]
    repeat' (first | refine go ?_ | (refine I.gd ?_; refine gn ?_) | (refine I.pk ?_; refine pF ?_) | (refine I.cond ?_; refine cF ?_) | fail)
    refine W.quiet Try.mix (by kernel_rfl) ?_
    repeat' (first | refine mv ?_ | (refine I.ld ?_; refine ld rfl ?_) | (refine I.fa ?_; refine fa ?_) | (refine I.nc ?_; refine nc ?_) | fail)
    refine WX.arTo (hi := c.ms.length) rfl rfl h4 rfl ?_
    repeat' (first | (refine WX.makeFunc (first := []) rfl rfl rfl ?_) | fail)
    refine WX.callQ rfl hix rfl ?_
    by_cases hh : c.has k = true
    · obtain ⟨p, hp, hpk⟩ := Ch.has_iff.1 hh
      obtain ⟨pre, post, e⟩ := List.append_of_mem hp
      obtain ⟨g1, g2⟩ := at_node hup e hpk
      have g1 : plc c.on.ms k = (pre.length : Int) := g1
      by_cases hone : c.ms.length = 1
      · have ha : dropL c k = none := by unfold dropL; rw [if_neg he, if_neg (by rw [hnl]; decide), if_pos (.inr hone)]
        have hnn : c.on.cfg.n = 1 := by show (c.ms.length : Int) = 1; omega
        rw [g1]
        repeat' (first | refine go ?_ | refine mv ?_ | (refine I.ld ?_; refine ld rfl ?_) | refine asg ?_ | (refine I.gd ?_; refine gy ?_) | (refine I.fa ?_; refine fa ?_) | (refine I.nc ?_; refine nc ?_) | (refine I.bin ?_; refine cm rfl rfl ?_) | (refine I.pk ?_; refine pF ?_) | (refine I.cond ?_; refine cP ?_) | fail)
        rw [ha]
        exact D.fin1 [CfBk b c.on.cfg, NBk nb k] _ rfl rfl ⟨_, rfl, rfl, fun c' h => by cases h⟩
      · have ha : dropL c k = some ⟨c.ep + 1, pre ++ post, c.ln⟩ := by
          unfold dropL
          rw [if_neg he, if_neg (by rw [hnl]; decide), if_neg (by rintro (h | h); · rw [hh] at h; cases h
                                                                  · exact hone h), g2]
        rw [ha]
        obtain ⟨ep, ms, ln⟩ := c
        simp only [] at e hone h4
        subst e
        rw [List.length_append, List.length_cons] at h4 hone
        rcases shapes h4 hone with ⟨rfl, x, rfl⟩ | ⟨rfl, x, y, rfl⟩ | ⟨rfl, x, y, z, rfl⟩ | ⟨x, rfl, rfl⟩ | ⟨x, y, rfl, rfl⟩ | ⟨x, y, z, rfl, rfl⟩ | ⟨x, y, rfl, rfl⟩ | ⟨x, y, z, rfl, rfl⟩ | ⟨x, y, z, rfl, rfl⟩
        · have gq : plc (Ch.on ⟨ep, [] ++ p :: [x], ln⟩).ms k = 0 := g1
          have hnn : (Ch.on ⟨ep, [] ++ p :: [x], ln⟩).cfg.n = 2 := rfl
          rw [gq]
          repeat' (first | refine go ?_ | refine mv ?_ | (refine I.ld ?_; refine ld rfl ?_) | refine asg ?_ | (refine I.gd ?_; refine gy ?_) | (refine I.fa ?_; refine fa ?_) | (refine I.nc ?_; refine nc ?_) | (refine I.bin ?_; refine cm rfl rfl ?_) | (refine I.pk ?_; refine pF ?_) | (refine I.cond ?_; refine cF ?_) | fail)
          refine W.mixN 8 (List.replicate 15 true) [CfBk b (Ch.on ⟨ep, [] ++ p :: [x], ln⟩).cfg] Try.mix (by kernel_rfl) ?_
          repeat' (first | refine go ?_ | refine mv ?_ | (refine I.fa ?_; refine fa ?_) | (refine I.nc ?_; refine nc ?_) | refine mU ?_ | fail)
          refine WX.arFrom (len := 4) (lo := 0) rfl rfl (by decide) rfl ?_
          repeat' (first | refine go ?_ | refine mv ?_ | (refine I.ld ?_; refine ld rfl ?_) | (refine I.fa ?_; refine fa ?_) | (refine I.nc ?_; refine nc ?_) | (refine I.bin ?_; refine ad ?_) | refine mU ?_ | fail)
          refine WX.arCut (len := 4) (lo := 0 + 1) (hi := 2) rfl rfl rfl (by decide) (by decide) rfl ?_
          repeat' (first | refine go ?_ | refine mN ?_ | fail)
          refine WX.copyIn rfl rfl rfl rfl rfl rfl rfl ?_
          repeat' (first | refine go ?_ | refine mv ?_ | (refine I.ld ?_; refine ld rfl ?_) | (refine I.fa ?_; refine fa ?_) | (refine I.nc ?_; refine nc ?_) | (refine I.bin ?_; refine su ?_) | (refine I.st ?_; refine st rfl rfl ?_) | fail)
          have hn2 : (Cfg.wn (Ch.cfg ⟨ep + 1, [] ++ [x] ++ [x], ln⟩) 1).n = 1 := rfl
          refine W.flat (H' := [CfBk b (Cfg.wn (Ch.cfg ⟨ep + 1, [] ++ [x] ++ [x], ln⟩) 1), NBk nb k, R]) rfl ?_
          refine W.mixN 8 (List.replicate 9 true) [CfBk b (Cfg.wn (Ch.cfg ⟨ep + 1, [] ++ [x] ++ [x], ln⟩) 1)] Try.mix (by kernel_rfl) ?_
          repeat' (first | refine go ?_ | refine mv ?_ | (refine I.ld ?_; refine ld rfl ?_) | refine asg ?_ | (refine I.fa ?_; refine fa ?_) | (refine I.nc ?_; refine nc ?_) | refine mN ?_ | refine mU ?_ | (refine I.ix ?_; refine iP ?_) | (refine I.st ?_; refine sG rfl rfl ?_) | refine bd ?_ | fail)
          refine D.flat (H' := [CfBk b (Ch.cfg ⟨ep + 1, [] ++ [x], ln⟩), NBk nb k, R]) rfl ?_
          exact D.fin1 [CfBk b (Ch.cfg ⟨ep + 1, [] ++ [x], ln⟩), NBk nb k] _ rfl rfl ⟨_, rfl, rfl, fun c' h => by cases h; rfl⟩
        · have gq : plc (Ch.on ⟨ep, [] ++ p :: [x, y], ln⟩).ms k = 0 := g1
          have hnn : (Ch.on ⟨ep, [] ++ p :: [x, y], ln⟩).cfg.n = 3 := rfl
          rw [gq]
          repeat' (first | refine go ?_ | refine mv ?_ | (refine I.ld ?_; refine ld rfl ?_) | refine asg ?_ | (refine I.gd ?_; refine gy ?_) | (refine I.fa ?_; refine fa ?_) | (refine I.nc ?_; refine nc ?_) | (refine I.bin ?_; refine cm rfl rfl ?_) | (refine I.pk ?_; refine pF ?_) | (refine I.cond ?_; refine cF ?_) | fail)
          refine W.mixN 8 (List.replicate 15 true) [CfBk b (Ch.on ⟨ep, [] ++ p :: [x, y], ln⟩).cfg] Try.mix (by kernel_rfl) ?_
          repeat' (first | refine go ?_ | refine mv ?_ | (refine I.fa ?_; refine fa ?_) | (refine I.nc ?_; refine nc ?_) | refine mU ?_ | fail)
          refine WX.arFrom (len := 4) (lo := 0) rfl rfl (by decide) rfl ?_
          repeat' (first | refine go ?_ | refine mv ?_ | (refine I.ld ?_; refine ld rfl ?_) | (refine I.fa ?_; refine fa ?_) | (refine I.nc ?_; refine nc ?_) | (refine I.bin ?_; refine ad ?_) | refine mU ?_ | fail)
          refine WX.arCut (len := 4) (lo := 0 + 1) (hi := 3) rfl rfl rfl (by decide) (by decide) rfl ?_
          repeat' (first | refine go ?_ | refine mN ?_ | fail)
          refine WX.copyIn rfl rfl rfl rfl rfl rfl rfl ?_
          repeat' (first | refine go ?_ | refine mv ?_ | (refine I.ld ?_; refine ld rfl ?_) | (refine I.fa ?_; refine fa ?_) | (refine I.nc ?_; refine nc ?_) | (refine I.bin ?_; refine su ?_) | (refine I.st ?_; refine st rfl rfl ?_) | fail)
          have hn2 : (Cfg.wn (Ch.cfg ⟨ep + 1, [] ++ [x, y] ++ [y], ln⟩) 2).n = 2 := rfl
          refine W.flat (H' := [CfBk b (Cfg.wn (Ch.cfg ⟨ep + 1, [] ++ [x, y] ++ [y], ln⟩) 2), NBk nb k, R]) rfl ?_
          refine W.mixN 8 (List.replicate 9 true) [CfBk b (Cfg.wn (Ch.cfg ⟨ep + 1, [] ++ [x, y] ++ [y], ln⟩) 2)] Try.mix (by kernel_rfl) ?_
          repeat' (first | refine go ?_ | refine mv ?_ | (refine I.ld ?_; refine ld rfl ?_) | refine asg ?_ | (refine I.fa ?_; refine fa ?_) | (refine I.nc ?_; refine nc ?_) | refine mN ?_ | refine mU ?_ | (refine I.ix ?_; refine iP ?_) | (refine I.st ?_; refine sG rfl rfl ?_) | refine bd ?_ | fail)
          refine D.flat (H' := [CfBk b (Ch.cfg ⟨ep + 1, [] ++ [x, y], ln⟩), NBk nb k, R]) rfl ?_
          exact D.fin1 [CfBk b (Ch.cfg ⟨ep + 1, [] ++ [x, y], ln⟩), NBk nb k] _ rfl rfl ⟨_, rfl, rfl, fun c' h => by cases h; rfl⟩
        · have gq : plc (Ch.on ⟨ep, [] ++ p :: [x, y, z], ln⟩).ms k = 0 := g1
          have hnn : (Ch.on ⟨ep, [] ++ p :: [x, y, z], ln⟩).cfg.n = 4 := rfl
          rw [gq]
          repeat' (first | refine go ?_ | refine mv ?_ | (refine I.ld ?_; refine ld rfl ?_) | refine asg ?_ | (refine I.gd ?_; refine gy ?_) | (refine I.fa ?_; refine fa ?_) | (refine I.nc ?_; refine nc ?_) | (refine I.bin ?_; refine cm rfl rfl ?_) | (refine I.pk ?_; refine pF ?_) | (refine I.cond ?_; refine cF ?_) | fail)
          refine W.mixN 8 (List.replicate 15 true) [CfBk b (Ch.on ⟨ep, [] ++ p :: [x, y, z], ln⟩).cfg] Try.mix (by kernel_rfl) ?_
          repeat' (first | refine go ?_ | refine mv ?_ | (refine I.fa ?_; refine fa ?_) | (refine I.nc ?_; refine nc ?_) | refine mU ?_ | fail)
          refine WX.arFrom (len := 4) (lo := 0) rfl rfl (by decide) rfl ?_
          repeat' (first | refine go ?_ | refine mv ?_ | (refine I.ld ?_; refine ld rfl ?_) | (refine I.fa ?_; refine fa ?_) | (refine I.nc ?_; refine nc ?_) | (refine I.bin ?_; refine ad ?_) | refine mU ?_ | fail)
          refine WX.arCut (len := 4) (lo := 0 + 1) (hi := 4) rfl rfl rfl (by decide) (by decide) rfl ?_
          repeat' (first | refine go ?_ | refine mN ?_ | fail)
          refine WX.copyIn rfl rfl rfl rfl rfl rfl rfl ?_
          repeat' (first | refine go ?_ | refine mv ?_ | (refine I.ld ?_; refine ld rfl ?_) | (refine I.fa ?_; refine fa ?_) | (refine I.nc ?_; refine nc ?_) | (refine I.bin ?_; refine su ?_) | (refine I.st ?_; refine st rfl rfl ?_) | fail)
          have hn2 : (Cfg.wn (Ch.cfg ⟨ep + 1, [] ++ [x, y, z] ++ [z], ln⟩) 3).n = 3 := rfl
          refine W.flat (H' := [CfBk b (Cfg.wn (Ch.cfg ⟨ep + 1, [] ++ [x, y, z] ++ [z], ln⟩) 3), NBk nb k, R]) rfl ?_
          refine W.mixN 8 (List.replicate 9 true) [CfBk b (Cfg.wn (Ch.cfg ⟨ep + 1, [] ++ [x, y, z] ++ [z], ln⟩) 3)] Try.mix (by kernel_rfl) ?_
          repeat' (first | refine go ?_ | refine mv ?_ | (refine I.ld ?_; refine ld rfl ?_) | refine asg ?_ | (refine I.fa ?_; refine fa ?_) | (refine I.nc ?_; refine nc ?_) | refine mN ?_ | refine mU ?_ | (refine I.ix ?_; refine iP ?_) | (refine I.st ?_; refine sG rfl rfl ?_) | refine bd ?_ | fail)
          refine D.flat (H' := [CfBk b (Ch.cfg ⟨ep + 1, [] ++ [x, y, z], ln⟩), NBk nb k, R]) rfl ?_
          exact D.fin1 [CfBk b (Ch.cfg ⟨ep + 1, [] ++ [x, y, z], ln⟩), NBk nb k] _ rfl rfl ⟨_, rfl, rfl, fun c' h => by cases h; rfl⟩
        · have gq : plc (Ch.on ⟨ep, [x] ++ p :: [], ln⟩).ms k = 1 := g1
          have hnn : (Ch.on ⟨ep, [x] ++ p :: [], ln⟩).cfg.n = 2 := rfl
          rw [gq]
          repeat' (first | refine go ?_ | refine mv ?_ | (refine I.ld ?_; refine ld rfl ?_) | refine asg ?_ | (refine I.gd ?_; refine gy ?_) | (refine I.fa ?_; refine fa ?_) | (refine I.nc ?_; refine nc ?_) | (refine I.bin ?_; refine cm rfl rfl ?_) | (refine I.pk ?_; refine pF ?_) | (refine I.cond ?_; refine cF ?_) | fail)
          refine W.mixN 8 (List.replicate 15 true) [CfBk b (Ch.on ⟨ep, [x] ++ p :: [], ln⟩).cfg] Try.mix (by kernel_rfl) ?_
          repeat' (first | refine go ?_ | refine mv ?_ | (refine I.fa ?_; refine fa ?_) | (refine I.nc ?_; refine nc ?_) | refine mU ?_ | fail)
          refine WX.arFrom (len := 4) (lo := 1) rfl rfl (by decide) rfl ?_
          repeat' (first | refine go ?_ | refine mv ?_ | (refine I.ld ?_; refine ld rfl ?_) | (refine I.fa ?_; refine fa ?_) | (refine I.nc ?_; refine nc ?_) | (refine I.bin ?_; refine ad ?_) | refine mU ?_ | fail)
          refine WX.arCut (len := 4) (lo := 1 + 1) (hi := 2) rfl rfl rfl (by decide) (by decide) rfl ?_
          repeat' (first | refine go ?_ | refine mN ?_ | fail)
          refine WX.copyIn rfl rfl rfl rfl rfl rfl rfl ?_
          repeat' (first | refine go ?_ | refine mv ?_ | (refine I.ld ?_; refine ld rfl ?_) | (refine I.fa ?_; refine fa ?_) | (refine I.nc ?_; refine nc ?_) | (refine I.bin ?_; refine su ?_) | (refine I.st ?_; refine st rfl rfl ?_) | fail)
          have hn2 : (Cfg.wn (Ch.cfg ⟨ep + 1, [x] ++ [] ++ [p], ln⟩) 1).n = 1 := rfl
          refine W.flat (H' := [CfBk b (Cfg.wn (Ch.cfg ⟨ep + 1, [x] ++ [] ++ [p], ln⟩) 1), NBk nb k, R]) rfl ?_
          refine W.mixN 8 (List.replicate 9 true) [CfBk b (Cfg.wn (Ch.cfg ⟨ep + 1, [x] ++ [] ++ [p], ln⟩) 1)] Try.mix (by kernel_rfl) ?_
          repeat' (first | refine go ?_ | refine mv ?_ | (refine I.ld ?_; refine ld rfl ?_) | refine asg ?_ | (refine I.fa ?_; refine fa ?_) | (refine I.nc ?_; refine nc ?_) | refine mN ?_ | refine mU ?_ | (refine I.ix ?_; refine iP ?_) | (refine I.st ?_; refine sG rfl rfl ?_) | refine bd ?_ | fail)
          refine D.flat (H' := [CfBk b (Ch.cfg ⟨ep + 1, [x] ++ [], ln⟩), NBk nb k, R]) rfl ?_
          exact D.fin1 [CfBk b (Ch.cfg ⟨ep + 1, [x] ++ [], ln⟩), NBk nb k] _ rfl rfl ⟨_, rfl, rfl, fun c' h => by cases h; rfl⟩
        · have gq : plc (Ch.on ⟨ep, [x] ++ p :: [y], ln⟩).ms k = 1 := g1
          have hnn : (Ch.on ⟨ep, [x] ++ p :: [y], ln⟩).cfg.n = 3 := rfl
          rw [gq]
          repeat' (first | refine go ?_ | refine mv ?_ | (refine I.ld ?_; refine ld rfl ?_) | refine asg ?_ | (refine I.gd ?_; refine gy ?_) | (refine I.fa ?_; refine fa ?_) | (refine I.nc ?_; refine nc ?_) | (refine I.bin ?_; refine cm rfl rfl ?_) | (refine I.pk ?_; refine pF ?_) | (refine I.cond ?_; refine cF ?_) | fail)
          refine W.mixN 8 (List.replicate 15 true) [CfBk b (Ch.on ⟨ep, [x] ++ p :: [y], ln⟩).cfg] Try.mix (by kernel_rfl) ?_
          repeat' (first | refine go ?_ | refine mv ?_ | (refine I.fa ?_; refine fa ?_) | (refine I.nc ?_; refine nc ?_) | refine mU ?_ | fail)
          refine WX.arFrom (len := 4) (lo := 1) rfl rfl (by decide) rfl ?_
          repeat' (first | refine go ?_ | refine mv ?_ | (refine I.ld ?_; refine ld rfl ?_) | (refine I.fa ?_; refine fa ?_) | (refine I.nc ?_; refine nc ?_) | (refine I.bin ?_; refine ad ?_) | refine mU ?_ | fail)
          refine WX.arCut (len := 4) (lo := 1 + 1) (hi := 3) rfl rfl rfl (by decide) (by decide) rfl ?_
          repeat' (first | refine go ?_ | refine mN ?_ | fail)
          refine WX.copyIn rfl rfl rfl rfl rfl rfl rfl ?_
          repeat' (first | refine go ?_ | refine mv ?_ | (refine I.ld ?_; refine ld rfl ?_) | (refine I.fa ?_; refine fa ?_) | (refine I.nc ?_; refine nc ?_) | (refine I.bin ?_; refine su ?_) | (refine I.st ?_; refine st rfl rfl ?_) | fail)
          have hn2 : (Cfg.wn (Ch.cfg ⟨ep + 1, [x] ++ [y] ++ [y], ln⟩) 2).n = 2 := rfl
          refine W.flat (H' := [CfBk b (Cfg.wn (Ch.cfg ⟨ep + 1, [x] ++ [y] ++ [y], ln⟩) 2), NBk nb k, R]) rfl ?_
          refine W.mixN 8 (List.replicate 9 true) [CfBk b (Cfg.wn (Ch.cfg ⟨ep + 1, [x] ++ [y] ++ [y], ln⟩) 2)] Try.mix (by kernel_rfl) ?_
          repeat' (first | refine go ?_ | refine mv ?_ | (refine I.ld ?_; refine ld rfl ?_) | refine asg ?_ | (refine I.fa ?_; refine fa ?_) | (refine I.nc ?_; refine nc ?_) | refine mN ?_ | refine mU ?_ | (refine I.ix ?_; refine iP ?_) | (refine I.st ?_; refine sG rfl rfl ?_) | refine bd ?_ | fail)
          refine D.flat (H' := [CfBk b (Ch.cfg ⟨ep + 1, [x] ++ [y], ln⟩), NBk nb k, R]) rfl ?_
          exact D.fin1 [CfBk b (Ch.cfg ⟨ep + 1, [x] ++ [y], ln⟩), NBk nb k] _ rfl rfl ⟨_, rfl, rfl, fun c' h => by cases h; rfl⟩
        · have gq : plc (Ch.on ⟨ep, [x] ++ p :: [y, z], ln⟩).ms k = 1 := g1
          have hnn : (Ch.on ⟨ep, [x] ++ p :: [y, z], ln⟩).cfg.n = 4 := rfl
          rw [gq]
          repeat' (first | refine go ?_ | refine mv ?_ | (refine I.ld ?_; refine ld rfl ?_) | refine asg ?_ | (refine I.gd ?_; refine gy ?_) | (refine I.fa ?_; refine fa ?_) | (refine I.nc ?_; refine nc ?_) | (refine I.bin ?_; refine cm rfl rfl ?_) | (refine I.pk ?_; refine pF ?_) | (refine I.cond ?_; refine cF ?_) | fail)
          refine W.mixN 8 (List.replicate 15 true) [CfBk b (Ch.on ⟨ep, [x] ++ p :: [y, z], ln⟩).cfg] Try.mix (by kernel_rfl) ?_
          repeat' (first | refine go ?_ | refine mv ?_ | (refine I.fa ?_; refine fa ?_) | (refine I.nc ?_; refine nc ?_) | refine mU ?_ | fail)
          refine WX.arFrom (len := 4) (lo := 1) rfl rfl (by decide) rfl ?_
          repeat' (first | refine go ?_ | refine mv ?_ | (refine I.ld ?_; refine ld rfl ?_) | (refine I.fa ?_; refine fa ?_) | (refine I.nc ?_; refine nc ?_) | (refine I.bin ?_; refine ad ?_) | refine mU ?_ | fail)
          refine WX.arCut (len := 4) (lo := 1 + 1) (hi := 4) rfl rfl rfl (by decide) (by decide) rfl ?_
          repeat' (first | refine go ?_ | refine mN ?_ | fail)
          refine WX.copyIn rfl rfl rfl rfl rfl rfl rfl ?_
          repeat' (first | refine go ?_ | refine mv ?_ | (refine I.ld ?_; refine ld rfl ?_) | (refine I.fa ?_; refine fa ?_) | (refine I.nc ?_; refine nc ?_) | (refine I.bin ?_; refine su ?_) | (refine I.st ?_; refine st rfl rfl ?_) | fail)
          have hn2 : (Cfg.wn (Ch.cfg ⟨ep + 1, [x] ++ [y, z] ++ [z], ln⟩) 3).n = 3 := rfl
          refine W.flat (H' := [CfBk b (Cfg.wn (Ch.cfg ⟨ep + 1, [x] ++ [y, z] ++ [z], ln⟩) 3), NBk nb k, R]) rfl ?_
          refine W.mixN 8 (List.replicate 9 true) [CfBk b (Cfg.wn (Ch.cfg ⟨ep + 1, [x] ++ [y, z] ++ [z], ln⟩) 3)] Try.mix (by kernel_rfl) ?_
          repeat' (first | refine go ?_ | refine mv ?_ | (refine I.ld ?_; refine ld rfl ?_) | refine asg ?_ | (refine I.fa ?_; refine fa ?_) | (refine I.nc ?_; refine nc ?_) | refine mN ?_ | refine mU ?_ | (refine I.ix ?_; refine iP ?_) | (refine I.st ?_; refine sG rfl rfl ?_) | refine bd ?_ | fail)
          refine D.flat (H' := [CfBk b (Ch.cfg ⟨ep + 1, [x] ++ [y, z], ln⟩), NBk nb k, R]) rfl ?_
          exact D.fin1 [CfBk b (Ch.cfg ⟨ep + 1, [x] ++ [y, z], ln⟩), NBk nb k] _ rfl rfl ⟨_, rfl, rfl, fun c' h => by cases h; rfl⟩
        · have gq : plc (Ch.on ⟨ep, [x, y] ++ p :: [], ln⟩).ms k = 2 := g1
          have hnn : (Ch.on ⟨ep, [x, y] ++ p :: [], ln⟩).cfg.n = 3 := rfl
          rw [gq]
          repeat' (first | refine go ?_ | refine mv ?_ | (refine I.ld ?_; refine ld rfl ?_) | refine asg ?_ | (refine I.gd ?_; refine gy ?_) | (refine I.fa ?_; refine fa ?_) | (refine I.nc ?_; refine nc ?_) | (refine I.bin ?_; refine cm rfl rfl ?_) | (refine I.pk ?_; refine pF ?_) | (refine I.cond ?_; refine cF ?_) | fail)
          refine W.mixN 8 (List.replicate 15 true) [CfBk b (Ch.on ⟨ep, [x, y] ++ p :: [], ln⟩).cfg] Try.mix (by kernel_rfl) ?_
          repeat' (first | refine go ?_ | refine mv ?_ | (refine I.fa ?_; refine fa ?_) | (refine I.nc ?_; refine nc ?_) | refine mU ?_ | fail)
          refine WX.arFrom (len := 4) (lo := 2) rfl rfl (by decide) rfl ?_
          repeat' (first | refine go ?_ | refine mv ?_ | (refine I.ld ?_; refine ld rfl ?_) | (refine I.fa ?_; refine fa ?_) | (refine I.nc ?_; refine nc ?_) | (refine I.bin ?_; refine ad ?_) | refine mU ?_ | fail)
          refine WX.arCut (len := 4) (lo := 2 + 1) (hi := 3) rfl rfl rfl (by decide) (by decide) rfl ?_
          repeat' (first | refine go ?_ | refine mN ?_ | fail)
          refine WX.copyIn rfl rfl rfl rfl rfl rfl rfl ?_
          repeat' (first | refine go ?_ | refine mv ?_ | (refine I.ld ?_; refine ld rfl ?_) | (refine I.fa ?_; refine fa ?_) | (refine I.nc ?_; refine nc ?_) | (refine I.bin ?_; refine su ?_) | (refine I.st ?_; refine st rfl rfl ?_) | fail)
          have hn2 : (Cfg.wn (Ch.cfg ⟨ep + 1, [x, y] ++ [] ++ [p], ln⟩) 2).n = 2 := rfl
          refine W.flat (H' := [CfBk b (Cfg.wn (Ch.cfg ⟨ep + 1, [x, y] ++ [] ++ [p], ln⟩) 2), NBk nb k, R]) rfl ?_
          refine W.mixN 8 (List.replicate 9 true) [CfBk b (Cfg.wn (Ch.cfg ⟨ep + 1, [x, y] ++ [] ++ [p], ln⟩) 2)] Try.mix (by kernel_rfl) ?_
          repeat' (first | refine go ?_ | refine mv ?_ | (refine I.ld ?_; refine ld rfl ?_) | refine asg ?_ | (refine I.fa ?_; refine fa ?_) | (refine I.nc ?_; refine nc ?_) | refine mN ?_ | refine mU ?_ | (refine I.ix ?_; refine iP ?_) | (refine I.st ?_; refine sG rfl rfl ?_) | refine bd ?_ | fail)
          refine D.flat (H' := [CfBk b (Ch.cfg ⟨ep + 1, [x, y] ++ [], ln⟩), NBk nb k, R]) rfl ?_
          exact D.fin1 [CfBk b (Ch.cfg ⟨ep + 1, [x, y] ++ [], ln⟩), NBk nb k] _ rfl rfl ⟨_, rfl, rfl, fun c' h => by cases h; rfl⟩
        · have gq : plc (Ch.on ⟨ep, [x, y] ++ p :: [z], ln⟩).ms k = 2 := g1
          have hnn : (Ch.on ⟨ep, [x, y] ++ p :: [z], ln⟩).cfg.n = 4 := rfl
          rw [gq]
          repeat' (first | refine go ?_ | refine mv ?_ | (refine I.ld ?_; refine ld rfl ?_) | refine asg ?_ | (refine I.gd ?_; refine gy ?_) | (refine I.fa ?_; refine fa ?_) | (refine I.nc ?_; refine nc ?_) | (refine I.bin ?_; refine cm rfl rfl ?_) | (refine I.pk ?_; refine pF ?_) | (refine I.cond ?_; refine cF ?_) | fail)
          refine W.mixN 8 (List.replicate 15 true) [CfBk b (Ch.on ⟨ep, [x, y] ++ p :: [z], ln⟩).cfg] Try.mix (by kernel_rfl) ?_
          repeat' (first | refine go ?_ | refine mv ?_ | (refine I.fa ?_; refine fa ?_) | (refine I.nc ?_; refine nc ?_) | refine mU ?_ | fail)
          refine WX.arFrom (len := 4) (lo := 2) rfl rfl (by decide) rfl ?_
          repeat' (first | refine go ?_ | refine mv ?_ | (refine I.ld ?_; refine ld rfl ?_) | (refine I.fa ?_; refine fa ?_) | (refine I.nc ?_; refine nc ?_) | (refine I.bin ?_; refine ad ?_) | refine mU ?_ | fail)
          refine WX.arCut (len := 4) (lo := 2 + 1) (hi := 4) rfl rfl rfl (by decide) (by decide) rfl ?_
          repeat' (first | refine go ?_ | refine mN ?_ | fail)
          refine WX.copyIn rfl rfl rfl rfl rfl rfl rfl ?_
          repeat' (first | refine go ?_ | refine mv ?_ | (refine I.ld ?_; refine ld rfl ?_) | (refine I.fa ?_; refine fa ?_) | (refine I.nc ?_; refine nc ?_) | (refine I.bin ?_; refine su ?_) | (refine I.st ?_; refine st rfl rfl ?_) | fail)
          have hn2 : (Cfg.wn (Ch.cfg ⟨ep + 1, [x, y] ++ [z] ++ [z], ln⟩) 3).n = 3 := rfl
          refine W.flat (H' := [CfBk b (Cfg.wn (Ch.cfg ⟨ep + 1, [x, y] ++ [z] ++ [z], ln⟩) 3), NBk nb k, R]) rfl ?_
          refine W.mixN 8 (List.replicate 9 true) [CfBk b (Cfg.wn (Ch.cfg ⟨ep + 1, [x, y] ++ [z] ++ [z], ln⟩) 3)] Try.mix (by kernel_rfl) ?_
          repeat' (first | refine go ?_ | refine mv ?_ | (refine I.ld ?_; refine ld rfl ?_) | refine asg ?_ | (refine I.fa ?_; refine fa ?_) | (refine I.nc ?_; refine nc ?_) | refine mN ?_ | refine mU ?_ | (refine I.ix ?_; refine iP ?_) | (refine I.st ?_; refine sG rfl rfl ?_) | refine bd ?_ | fail)
          refine D.flat (H' := [CfBk b (Ch.cfg ⟨ep + 1, [x, y] ++ [z], ln⟩), NBk nb k, R]) rfl ?_
          exact D.fin1 [CfBk b (Ch.cfg ⟨ep + 1, [x, y] ++ [z], ln⟩), NBk nb k] _ rfl rfl ⟨_, rfl, rfl, fun c' h => by cases h; rfl⟩
        · have gq : plc (Ch.on ⟨ep, [x, y, z] ++ p :: [], ln⟩).ms k = 3 := g1
          have hnn : (Ch.on ⟨ep, [x, y, z] ++ p :: [], ln⟩).cfg.n = 4 := rfl
          rw [gq]
          repeat' (first | refine go ?_ | refine mv ?_ | (refine I.ld ?_; refine ld rfl ?_) | refine asg ?_ | (refine I.gd ?_; refine gy ?_) | (refine I.fa ?_; refine fa ?_) | (refine I.nc ?_; refine nc ?_) | (refine I.bin ?_; refine cm rfl rfl ?_) | (refine I.pk ?_; refine pF ?_) | (refine I.cond ?_; refine cF ?_) | fail)
          refine W.mixN 8 (List.replicate 15 true) [CfBk b (Ch.on ⟨ep, [x, y, z] ++ p :: [], ln⟩).cfg] Try.mix (by kernel_rfl) ?_
          repeat' (first | refine go ?_ | refine mv ?_ | (refine I.fa ?_; refine fa ?_) | (refine I.nc ?_; refine nc ?_) | refine mU ?_ | fail)
          refine WX.arFrom (len := 4) (lo := 3) rfl rfl (by decide) rfl ?_
          repeat' (first | refine go ?_ | refine mv ?_ | (refine I.ld ?_; refine ld rfl ?_) | (refine I.fa ?_; refine fa ?_) | (refine I.nc ?_; refine nc ?_) | (refine I.bin ?_; refine ad ?_) | refine mU ?_ | fail)
          refine WX.arCut (len := 4) (lo := 3 + 1) (hi := 4) rfl rfl rfl (by decide) (by decide) rfl ?_
          repeat' (first | refine go ?_ | refine mN ?_ | fail)
          refine WX.copyIn rfl rfl rfl rfl rfl rfl rfl ?_
          repeat' (first | refine go ?_ | refine mv ?_ | (refine I.ld ?_; refine ld rfl ?_) | (refine I.fa ?_; refine fa ?_) | (refine I.nc ?_; refine nc ?_) | (refine I.bin ?_; refine su ?_) | (refine I.st ?_; refine st rfl rfl ?_) | fail)
          have hn2 : (Cfg.wn (Ch.cfg ⟨ep + 1, [x, y, z] ++ [] ++ [p], ln⟩) 3).n = 3 := rfl
          refine W.flat (H' := [CfBk b (Cfg.wn (Ch.cfg ⟨ep + 1, [x, y, z] ++ [] ++ [p], ln⟩) 3), NBk nb k, R]) rfl ?_
          refine W.mixN 8 (List.replicate 9 true) [CfBk b (Cfg.wn (Ch.cfg ⟨ep + 1, [x, y, z] ++ [] ++ [p], ln⟩) 3)] Try.mix (by kernel_rfl) ?_
          repeat' (first | refine go ?_ | refine mv ?_ | (refine I.ld ?_; refine ld rfl ?_) | refine asg ?_ | (refine I.fa ?_; refine fa ?_) | (refine I.nc ?_; refine nc ?_) | refine mN ?_ | refine mU ?_ | (refine I.ix ?_; refine iP ?_) | (refine I.st ?_; refine sG rfl rfl ?_) | refine bd ?_ | fail)
          refine D.flat (H' := [CfBk b (Ch.cfg ⟨ep + 1, [x, y, z] ++ [], ln⟩), NBk nb k, R]) rfl ?_
          exact D.fin1 [CfBk b (Ch.cfg ⟨ep + 1, [x, y, z] ++ [], ln⟩), NBk nb k] _ rfl rfl ⟨_, rfl, rfl, fun c' h => by cases h; rfl⟩
    · have hno : c.has k = false := by cases h : c.has k with | false => rfl | true => exact absurd h hh
      have ha : dropL c k = none := by unfold dropL; rw [if_neg he, if_neg (by rw [hnl]; decide), if_pos (.inl hno)]
      have g1 : plc c.on.ms k = -1 := plc_none fun q hq h => hh (Ch.has_iff.2 ⟨q, hq, h⟩)
      rw [g1]
      repeat' (first | refine go ?_ | refine mv ?_ | refine asg ?_ | (refine I.gd ?_; refine gn ?_) | (refine I.bin ?_; refine cm rfl rfl ?_) | (refine I.pk ?_; refine pT ?_) | (refine I.cond ?_; refine cT ?_) | fail)
      rw [ha]
      exact D.fin1 [CfBk b c.on.cfg, NBk nb k] _ rfl rfl ⟨_, rfl, rfl, fun c' h => by cases h⟩
end Go.Proofs.Ytfcefidmdijjkaa

/-
  roster: With, Without, Grown.
-/
set_option linter.unusedVariables false
set_option linter.unusedSimpArgs false
namespace Go.Proofs.Ytfcefidmdijjkaa
open Go Go.Sl

def withV (nb : Nat) : Value := .func (.func 47) (List.toArray []) (List.toArray [.pointer (some ⟨nb, 0, none⟩)])
def dropV (nb : Nat) : Value := .func (.func 37) (List.toArray []) (List.toArray [.pointer (some ⟨nb, 0, none⟩)])
def growV : Value := .func (.func 51) (List.toArray []) (List.toArray [])
set_option maxRecDepth 20000 in
theorem turnWith_ct {c : Ch} (ok : ChOk c) (nb : Nat) (k : Int) :
    Ct Try.prog 36 [.agg (List.toArray c.cfg.enc), withV nb] [NBk nb k] (fun r H' => r = chRes (addL c k) ∧ H' = [NBk nb k]) := by
  have he1 : 1 ≤ c.cfg.ep := ok.e1
  have he2 : c.cfg.ep ≤ 1099511627776 := ok.e2
  refine Ct.mk' Try.func36 rfl rfl rfl (fun g R => ?_)
  try simp only [List.cons_append]
  simp only [List.nil_append]
  repeat' (first | refine go ?_ | (refine I.ld ?_; refine lA rfl ?_) | refine asg ?_ | refine bx rfl (fun _ => ?_) | refine al (fun _ => ?_) | fail)
  refine WX.callQ rfl (right_ct ok) rfl ?_
  by_cases he : c.ep = 1099511627776
  · have hep : c.cfg.ep = 1099511627776 := he
    have ha : addL c k = none := by unfold addL; rw [if_pos (.inl he)]
    rw [ha]
    repeat' (first | refine go ?_ | refine mv ?_ | (refine I.ld ?_; refine ld rfl ?_) | refine asg ?_ | (refine I.gd ?_; refine gy ?_) | (refine I.fa ?_; refine fa ?_) | (refine I.bin ?_; refine cm rfl rfl ?_) | (refine I.pk ?_; refine pF ?_) | (refine I.cond ?_; refine cP ?_) | (refine I.st ?_; refine sG rfl rfl ?_) | (refine I.un ?_; refine nt ?_) | refine bd ?_ | fail)
    exact D.finR [NBk nb k] _ rfl (.cellA rfl rfl (.tmp rfl .nil)) rfl ⟨rfl, rfl⟩
  · have hep : ¬ c.cfg.ep = 1099511627776 := he
    repeat' (first | refine go ?_ | refine mv ?_ | (refine I.ld ?_; refine ld rfl ?_) | (refine I.gd ?_; refine gy ?_) | (refine I.fa ?_; refine fa ?_) | (refine I.bin ?_; first | refine cm rfl rfl ?_ | refine ad ?_) | (refine I.pk ?_; refine pF ?_) | (refine I.cond ?_; refine cN ?_) | (refine I.st ?_; refine st rfl rfl ?_) | (refine I.un ?_; refine nt ?_) | fail)
    rename_i b b4
    refine WX.hp (H' := [CfBk b4 Cfg.z, CfBk b c.on.cfg, NBk nb k, R]) rfl ?_
    refine WX.callV rfl rfl (withF_ct ok he b nb k) rfl ?_
    rintro _ _ ⟨c2, rfl, rfl, hc2⟩
    simp only [List.cons_append, List.nil_append]
    cases ha : addL c k with
    | none =>
      repeat' (first | refine go ?_ | refine asg ?_ | (refine I.cond ?_; refine cT ?_) | (refine I.st ?_; refine sG rfl rfl ?_) | (refine I.un ?_; refine nt ?_) | refine bd ?_ | fail)
      exact D.finR [NBk nb k] _ rfl (.cellA rfl rfl (.tmp rfl .nil)) rfl ⟨rfl, rfl⟩
    | some c' =>
      obtain rfl := hc2 c' ha
      repeat' (first | refine go ?_ | (refine I.ld ?_; refine lA rfl ?_) | refine asg ?_ | (refine I.cond ?_; refine cF ?_) | (refine I.st ?_; refine sG rfl rfl ?_) | (refine I.un ?_; refine nt ?_) | fail)
      exact D.finR [NBk nb k] _ rfl (.cellA rfl rfl (.tmp rfl .nil)) rfl ⟨rfl, rfl⟩
set_option maxRecDepth 20000 in
theorem turnDrop_ct {c : Ch} (ok : ChOk c) (nb : Nat) (k : Int) :
    Ct Try.prog 36 [.agg (List.toArray c.cfg.enc), dropV nb] [NBk nb k] (fun r H' => r = chRes (dropL c k) ∧ H' = [NBk nb k]) := by
  have he1 : 1 ≤ c.cfg.ep := ok.e1
  have he2 : c.cfg.ep ≤ 1099511627776 := ok.e2
  refine Ct.mk' Try.func36 rfl rfl rfl (fun g R => ?_)
  try simp only [List.cons_append]
  simp only [List.nil_append]
  repeat' (first | refine go ?_ | (refine I.ld ?_; refine lA rfl ?_) | refine asg ?_ | refine bx rfl (fun _ => ?_) | refine al (fun _ => ?_) | fail)
  refine WX.callQ rfl (right_ct ok) rfl ?_
  by_cases he : c.ep = 1099511627776
  · have hep : c.cfg.ep = 1099511627776 := he
    have ha : dropL c k = none := by unfold dropL; rw [if_pos he]
    rw [ha]
    repeat' (first | refine go ?_ | refine mv ?_ | (refine I.ld ?_; refine ld rfl ?_) | refine asg ?_ | (refine I.gd ?_; refine gy ?_) | (refine I.fa ?_; refine fa ?_) | (refine I.bin ?_; refine cm rfl rfl ?_) | (refine I.pk ?_; refine pF ?_) | (refine I.cond ?_; refine cP ?_) | (refine I.st ?_; refine sG rfl rfl ?_) | (refine I.un ?_; refine nt ?_) | refine bd ?_ | fail)
    exact D.finR [NBk nb k] _ rfl (.cellA rfl rfl (.tmp rfl .nil)) rfl ⟨rfl, rfl⟩
  · have hep : ¬ c.cfg.ep = 1099511627776 := he
    repeat' (first | refine go ?_ | refine mv ?_ | (refine I.ld ?_; refine ld rfl ?_) | (refine I.gd ?_; refine gy ?_) | (refine I.fa ?_; refine fa ?_) | (refine I.bin ?_; first | refine cm rfl rfl ?_ | refine ad ?_) | (refine I.pk ?_; refine pF ?_) | (refine I.cond ?_; refine cN ?_) | (refine I.st ?_; refine st rfl rfl ?_) | (refine I.un ?_; refine nt ?_) | fail)
    rename_i b b4
    refine WX.hp (H' := [CfBk b4 Cfg.z, CfBk b c.on.cfg, NBk nb k, R]) rfl ?_
    refine WX.callV rfl rfl (dropF_ct ok he b nb k) rfl ?_
    rintro _ _ ⟨c2, rfl, rfl, hc2⟩
    simp only [List.cons_append, List.nil_append]
    cases ha : dropL c k with
    | none =>
      repeat' (first | refine go ?_ | refine asg ?_ | (refine I.cond ?_; refine cT ?_) | (refine I.st ?_; refine sG rfl rfl ?_) | (refine I.un ?_; refine nt ?_) | refine bd ?_ | fail)
      exact D.finR [NBk nb k] _ rfl (.cellA rfl rfl (.tmp rfl .nil)) rfl ⟨rfl, rfl⟩
    | some c' =>
      obtain rfl := hc2 c' ha
      repeat' (first | refine go ?_ | (refine I.ld ?_; refine lA rfl ?_) | refine asg ?_ | (refine I.cond ?_; refine cF ?_) | (refine I.st ?_; refine sG rfl rfl ?_) | (refine I.un ?_; refine nt ?_) | fail)
      exact D.finR [NBk nb k] _ rfl (.cellA rfl rfl (.tmp rfl .nil)) rfl ⟨rfl, rfl⟩
set_option maxRecDepth 20000 in
theorem turnGrow_ct {c : Ch} (ok : ChOk c) :
    Ct Try.prog 36 [.agg (List.toArray c.cfg.enc), growV] [] (fun r H' => r = chRes (growL c) ∧ H' = []) := by
  have he1 : 1 ≤ c.cfg.ep := ok.e1
  have he2 : c.cfg.ep ≤ 1099511627776 := ok.e2
  refine Ct.mk' Try.func36 rfl rfl rfl (fun g R => ?_)
  try simp only [List.cons_append]
  simp only [List.nil_append]
  repeat' (first | refine go ?_ | (refine I.ld ?_; refine lA rfl ?_) | refine asg ?_ | refine bx rfl (fun _ => ?_) | refine al (fun _ => ?_) | fail)
  refine WX.callQ rfl (right_ct ok) rfl ?_
  by_cases he : c.ep = 1099511627776
  · have hep : c.cfg.ep = 1099511627776 := he
    have ha : growL c = none := by unfold growL; rw [if_pos he]
    rw [ha]
    repeat' (first | refine go ?_ | refine mv ?_ | (refine I.ld ?_; refine ld rfl ?_) | refine asg ?_ | (refine I.gd ?_; refine gy ?_) | (refine I.fa ?_; refine fa ?_) | (refine I.bin ?_; refine cm rfl rfl ?_) | (refine I.pk ?_; refine pF ?_) | (refine I.cond ?_; refine cP ?_) | (refine I.st ?_; refine sG rfl rfl ?_) | (refine I.un ?_; refine nt ?_) | refine bd ?_ | fail)
    exact D.finR [] _ rfl (.cellA rfl rfl (.tmp rfl .nil)) rfl ⟨rfl, rfl⟩
  · have hep : ¬ c.cfg.ep = 1099511627776 := he
    repeat' (first | refine go ?_ | refine mv ?_ | (refine I.ld ?_; refine ld rfl ?_) | (refine I.gd ?_; refine gy ?_) | (refine I.fa ?_; refine fa ?_) | (refine I.bin ?_; first | refine cm rfl rfl ?_ | refine ad ?_) | (refine I.pk ?_; refine pF ?_) | (refine I.cond ?_; refine cN ?_) | (refine I.st ?_; refine st rfl rfl ?_) | (refine I.un ?_; refine nt ?_) | fail)
    rename_i b b4
    refine WX.hp (H' := [CfBk b4 Cfg.z, CfBk b c.on.cfg, R]) rfl ?_
    refine WX.callV rfl rfl (growF_ct ok he b) rfl ?_
    rintro _ _ ⟨c2, rfl, rfl, hc2⟩
    simp only [List.cons_append, List.nil_append]
    cases ha : growL c with
    | none =>
      repeat' (first | refine go ?_ | refine asg ?_ | (refine I.cond ?_; refine cT ?_) | (refine I.st ?_; refine sG rfl rfl ?_) | (refine I.un ?_; refine nt ?_) | refine bd ?_ | fail)
      exact D.finR [] _ rfl (.cellA rfl rfl (.tmp rfl .nil)) rfl ⟨rfl, rfl⟩
    | some c' =>
      obtain rfl := hc2 c' ha
      repeat' (first | refine go ?_ | (refine I.ld ?_; refine lA rfl ?_) | refine asg ?_ | (refine I.cond ?_; refine cF ?_) | (refine I.st ?_; refine sG rfl rfl ?_) | (refine I.un ?_; refine nt ?_) | fail)
      exact D.finR [] _ rfl (.cellA rfl rfl (.tmp rfl .nil)) rfl ⟨rfl, rfl⟩

theorem with_ct {c : Ch} (ok : ChOk c) (k : Int) :
    Ct Try.prog 28 [.agg (List.toArray c.cfg.enc), .int .i64 k] [] (fun r H' => r = chRes (addL c k) ∧ H' = []) := by
  refine Ct.mk' Try.func28 rfl rfl rfl (fun g R => ?_)
  try simp only [List.cons_append]
  simp only [List.nil_append]
  repeat' (first | refine go ?_ | (refine I.ld ?_; refine lA rfl ?_) | refine asg ?_ | refine bx rfl (fun _ => ?_) | refine al (fun _ => ?_) | (refine WX.makeFunc (first := []) rfl rfl rfl ?_) | fail)
  rename_i b nb b4
  refine WX.call rfl (turnWith_ct ok nb k) rfl ?_
  rintro _ _ ⟨rfl, rfl⟩
  unfold chRes
  generalize (addL c k).isSome = cb
  simp only [List.cons_append, List.nil_append]
  repeat' (first | refine go ?_ | refine asg ?_ | (refine I.st ?_; refine sG rfl rfl ?_) | refine ex ?_ | fail)
  exact D.finR [] _ rfl (.cellA rfl rfl (.tmp rfl .nil)) rfl ⟨rfl, rfl⟩

theorem drop_ct {c : Ch} (ok : ChOk c) (k : Int) :
    Ct Try.prog 22 [.agg (List.toArray c.cfg.enc), .int .i64 k] [] (fun r H' => r = chRes (dropL c k) ∧ H' = []) := by
  refine Ct.mk' Try.func22 rfl rfl rfl (fun g R => ?_)
  try simp only [List.cons_append]
  simp only [List.nil_append]
  repeat' (first | refine go ?_ | (refine I.ld ?_; refine lA rfl ?_) | refine asg ?_ | refine bx rfl (fun _ => ?_) | refine al (fun _ => ?_) | (refine WX.makeFunc (first := []) rfl rfl rfl ?_) | fail)
  rename_i b nb b4
  refine WX.call rfl (turnDrop_ct ok nb k) rfl ?_
  rintro _ _ ⟨rfl, rfl⟩
  unfold chRes
  generalize (dropL c k).isSome = cb
  simp only [List.cons_append, List.nil_append]
  repeat' (first | refine go ?_ | refine asg ?_ | (refine I.st ?_; refine sG rfl rfl ?_) | refine ex ?_ | fail)
  exact D.finR [] _ rfl (.cellA rfl rfl (.tmp rfl .nil)) rfl ⟨rfl, rfl⟩

theorem grow_ct {c : Ch} (ok : ChOk c) :
    Ct Try.prog 30 [.agg (List.toArray c.cfg.enc)] [] (fun r H' => r = chRes (growL c) ∧ H' = []) := by
  refine Ct.mk' Try.func30 rfl rfl rfl (fun g R => ?_)
  try simp only [List.cons_append]
  simp only [List.nil_append]
  repeat' (first | refine go ?_ | (refine I.ld ?_; refine lA rfl ?_) | refine asg ?_ | refine bx rfl (fun _ => ?_) | refine al (fun _ => ?_) | fail)
  rename_i b b4
  refine WX.call rfl (turnGrow_ct ok) rfl ?_
  rintro _ _ ⟨rfl, rfl⟩
  unfold chRes
  generalize (growL c).isSome = cb
  simp only [List.cons_append, List.nil_append]
  repeat' (first | refine go ?_ | refine asg ?_ | (refine I.st ?_; refine sG rfl rfl ?_) | refine ex ?_ | fail)
  exact D.finR [] _ rfl (.cellA rfl rfl (.tmp rfl .nil)) rfl ⟨rfl, rfl⟩
end Go.Proofs.Ytfcefidmdijjkaa

/-
  roster: Nodes; slices.Index.
-/
set_option linter.unusedVariables false
set_option linter.unusedSimpArgs false
namespace Go.Proofs.Ytfcefidmdijjkaa
open Go Go.Sl

theorem nodes_ct {c : Ch} (ok : ChOk c) :
    Ct Try.prog 32 [.agg (List.toArray c.cfg.enc)] [] (fun r H' => ∃ h', IsSl 3 (c.all.map (·.nd)) r h' ∧ H' = [h']) := by
  have hall : c.all.length ≤ 4 := by have := ok.l4; unfold Ch.all; rw [List.length_append]; exact this
  refine Ct.mk' Try.func32 rfl rfl rfl (fun g R => ?_)
  try simp only [List.cons_append]
  simp only [List.nil_append]
  repeat' (first | refine go ?_ | (refine I.ld ?_; refine lA rfl ?_) | refine asg ?_ | refine bx rfl (fun _ => ?_) | fail)
  refine WX.callQ rfl (right_ct ok) rfl ?_
  repeat' (first | refine go ?_ | (refine I.ld ?_; refine lA rfl ?_) | refine asg ?_ | (refine I.cond ?_; refine cF ?_) | (refine I.un ?_; refine nt ?_) | fail)
  rename_i b
  refine WX.call rfl (members_ct ok) rfl ?_
  rintro _ _ ⟨hm, hsm, rfl⟩
  have hrm := hsm.rs
  obtain ⟨vp, vc, rfl⟩ := hrm.len
  simp only [List.cons_append, List.nil_append]
  repeat' (first | refine go ?_ | refine mv ?_ | (refine I.bi ?_; refine ln rfl (by assumption) ?_) | fail)
  refine W.nilH ?_
  refine W.loop (α := Nat × Value × Hp) (fun x => x.1 ≤ c.all.length ∧ IsSl 3 ((c.all.take x.1).map (·.nd)) x.2.1 x.2.2) (fun x => [(1, .pointer (some ⟨b, 0, none⟩)), (3, x.2.1), (10, .slice vp c.all.length vc), (11, .int .i64 (c.all.length : Nat)), (12, .int .i64 (x.1 : Int))]) (fun x => [x.2.2, hm, CfBk b c.cfg, R]) (fun x => c.all.length - x.1) (0, .slice none 0 0, []) ⟨Nat.zero_le _, IsSl.nil _⟩ (by repeat (first | exact Fsub.nil | refine Fsub.cons rfl ?_)) (Hsub.of_picks inferInstance) ?_
  rintro ⟨k, v, h⟩ ⟨hk, hs⟩
  simp only [] at hk hs ⊢
  have hvl : ((c.all.take k).map (·.nd)).length ≤ 4 := by rw [List.length_map, List.length_take]; omega
  by_cases hlt : k < c.all.length
  · obtain ⟨m, hmk⟩ : ∃ m, c.all[k]? = some m := ⟨_, List.getElem?_eq_getElem hlt⟩
    repeat' (first | refine go ?_ | refine mv ?_ | (refine I.ld ?_; first | refine ld rfl ?_ | refine lF rfl (by assumption) ?_) | (refine I.fa ?_; refine fa ?_) | (refine I.bin ?_; refine cm rfl rfl ?_) | (refine I.cond ?_; refine cP ?_) | (refine I.ix ?_; refine ix rfl rfl ?_) | (refine I.st ?_; refine sG rfl rfl ?_) | refine al (fun _ => ?_) | fail)
    refine I.bs ?_
    refine WX.lit (ys := [m.nd]) rfl rfl rfl rfl rfl rfl (by decide) rfl (fun v2 h2 hs2 => ?_)
    skip
    refine WX.app rfl rfl hs hs2.rs rfl rfl (by decide) (by simp only [List.length_cons, List.length_nil]; omega) rfl (fun v3 h3 hs3 => ?_)
    have hs3 : IsSl 3 ((c.all.take (k + 1)).map (·.nd)) v3 h3 := by rw [List.take_add_one, hmk, List.map_append]; exact hs3
    repeat' (first | refine go ?_ | refine mv ?_ | refine asg ?_ | (refine I.bin ?_; refine ad ?_) | fail)
    exact D.round (k + 1, v3, h3) ⟨by simp only []; omega, hs3⟩ (by simp only []; omega) (by repeat (first | exact Fsub.nil | refine Fsub.cons rfl ?_)) (Hsub.of_picks inferInstance)
  · obtain rfl : k = c.all.length := by omega
    rw [List.take_length] at hs
    repeat' (first | refine go ?_ | refine mv ?_ | refine asg ?_ | (refine I.bin ?_; refine cm rfl rfl ?_) | (refine I.cond ?_; refine cN ?_) | fail)
    exact D.fin1 [h] _ rfl rfl ⟨h, hs, rfl⟩
end Go.Proofs.Ytfcefidmdijjkaa

/-
  slices.Index; roster: Full.
-/
set_option linter.unusedVariables false
set_option linter.unusedSimpArgs false
namespace Go.Proofs.Ytfcefidmdijjkaa
open Go Go.Sl

def iplc (xs : List Int) (k : Int) : Int := match xs.findIdx? (fun p => decide (p = k)) with | none => -1 | some i => (i : Int)
theorem iplc_some {ms : List Int} {k : Int} {j : Nat} {p : Int} (hp : ms[j]? = some p) (hpk : p = k) (hall : ∀ i p, i < j → ms[i]? = some p → ¬ p = k) : iplc ms k = (j : Int) := by
  have hf : ms.findIdx? (fun p => decide (p = k)) = some j := by
    rw [List.findIdx?_eq_some_iff_getElem]
    obtain ⟨h1, h2⟩ := List.getElem?_eq_some_iff.1 hp
    refine ⟨h1, by rw [h2]; simpa using hpk, fun i hi => ?_⟩
    have := hall i _ hi (List.getElem?_eq_getElem (by omega))
    simpa using this
  unfold iplc; rw [hf]
theorem iplc_none {ms : List Int} {k : Int} (hall : ∀ p ∈ ms, ¬ p = k) : iplc ms k = -1 := by
  have hf : ms.findIdx? (fun p => decide (p = k)) = none := by
    rw [List.findIdx?_eq_none_iff]
    intro x hx
    simpa using hall x hx
  unfold iplc; rw [hf]
theorem index_ct {ps : List Int} {v : Value} {h : Hp} (hs : Rs ps v h) (k : Int) (hl : ps.length ≤ 1000000) :
    Ct Try.prog 31 [v, .int .i64 k] [h] (fun r H' => r = .int .i64 (iplc ps k) ∧ H' = [h]) := by
  refine Ct.mk' Try.func31 rfl rfl rfl (fun g R => ?_)
  try simp only [List.cons_append]
  simp only [List.nil_append]
  repeat' (first | refine go ?_ | refine mv ?_ | refine asg ?_ | (refine I.bi ?_; refine ln rfl (by assumption) ?_) | fail)
  refine W.loop (α := Nat) (fun j => j ≤ ps.length ∧ ∀ i p, i < j → ps[i]? = some p → ¬ p = k) (fun j => [(0, v), (1, .int .i64 k), (7, .int .i64 (ps.length : Int)), (8, .int .i64 (j : Int))]) (fun _ => [h, R]) (fun j => ps.length - j) 0 ⟨Nat.zero_le _, fun i p hi => absurd hi (Nat.not_lt_zero _)⟩ (by repeat (first | exact Fsub.nil | refine Fsub.cons rfl ?_)) (Hsub.of_picks inferInstance) ?_
  rintro j ⟨hj, hall⟩
  by_cases hlt : j < ps.length
  · obtain ⟨p, hp⟩ : ∃ p, ps[j]? = some p := ⟨_, List.getElem?_eq_getElem hlt⟩
    by_cases hpk : k = p
    · repeat' (first | refine go ?_ | refine mv ?_ | (refine I.ld ?_; refine lE rfl (by assumption) ?_) | refine asg ?_ | (refine I.bin ?_; refine cm rfl rfl ?_) | (refine I.cond ?_; refine cP ?_) | (refine I.ix ?_; refine ix rfl rfl ?_) | fail)
      exact D.fin1 [h] _ rfl rfl ⟨by rw [iplc_some hp hpk.symm hall], rfl⟩
    · repeat' (first | refine go ?_ | refine mv ?_ | (refine I.ld ?_; refine lE rfl (by assumption) ?_) | refine asg ?_ | (refine I.bin ?_; first | refine cm rfl rfl ?_ | refine ad ?_) | (refine I.cond ?_; first | refine cP ?_ | refine cN ?_) | (refine I.ix ?_; refine ix rfl rfl ?_) | fail)
      refine D.round (j + 1) ⟨by omega, fun i p' hi hp' => ?_⟩ (by omega) (by repeat (first | exact Fsub.nil | refine Fsub.cons rfl ?_)) (Hsub.of_picks inferInstance)
      rcases Nat.lt_or_ge i j with h | h
      · exact hall i p' h hp'
      · obtain rfl : i = j := by omega
        rw [hp] at hp'
        cases hp'
        exact fun e => hpk e.symm
  · have hno : ∀ p ∈ ps, ¬ p = k := fun x hx => by
      obtain ⟨i, hi⟩ := List.mem_iff_getElem?.1 hx
      have hlt := (List.getElem?_eq_some_iff.1 hi).1
      exact hall i x (by omega) hi
    repeat' (first | refine go ?_ | refine asg ?_ | (refine I.bin ?_; refine cm rfl rfl ?_) | (refine I.cond ?_; refine cN ?_) | fail)
    exact D.fin1 [h] _ rfl rfl ⟨by rw [iplc_none hno], rfl⟩
/-- The place among the full ones tells a full one. -/
theorem iplc_full {c : Ch} {k : Int} : (0 ≤ iplc (c.all.map (·.nd)) k ∧ iplc (c.all.map (·.nd)) k < (c.ms.length : Int)) ↔ c.has k = true := by
  have e : iplc (c.all.map (·.nd)) k = plc c.all k := by unfold iplc plc; rw [List.findIdx?_map]; rfl
  rw [e, Ch.has_iff]
  unfold plc Ch.all
  rw [List.findIdx?_append]
  cases hf : c.ms.findIdx? (fun p => decide (p.nd = k)) with
  | none =>
    rw [List.findIdx?_eq_none_iff] at hf
    have hno : ¬ ∃ m ∈ c.ms, m.nd = k := fun ⟨m, hm, e⟩ => by have := hf m hm; simp [e] at this
    refine ⟨fun h => ?_, fun h => absurd h hno⟩
    exfalso
    cases hg : c.ln.toList.findIdx? (fun p => decide (p.nd = k)) with
    | none => rw [hg] at h; simp at h
    | some i => rw [hg] at h; simp at h; omega
  | some i =>
    rw [List.findIdx?_eq_some_iff_getElem] at hf
    obtain ⟨h1, h2, _⟩ := hf
    simp only [Option.some_or]
    exact ⟨fun _ => ⟨_, List.getElem_mem h1, by simpa using h2⟩, fun _ => ⟨by omega, by omega⟩⟩
theorem full_ct {c : Ch} (ok : ChOk c) (k : Int) :
    Ct Try.prog 15 [.agg (List.toArray c.cfg.enc), .int .i64 k] [] (fun r H' => r = .bool (c.has k) ∧ H' = []) := by
  have hall : c.all.length ≤ 4 := by have := ok.l4; unfold Ch.all; rw [List.length_append]; exact this
  have hfu := iplc_full (c := c) (k := k)
  generalize hi : iplc (c.all.map (·.nd)) k = i at hfu
  have hfu : (0 ≤ i ∧ i < c.cfg.n) ↔ c.has k = true := hfu
  refine Ct.mk' Try.func15 rfl rfl rfl (fun g R => ?_)
  try simp only [List.cons_append]
  simp only [List.nil_append]
  repeat' (first | refine go ?_ | (refine I.ld ?_; refine lA rfl ?_) | refine asg ?_ | refine bx rfl (fun _ => ?_) | fail)
  refine WX.call rfl (nodes_ct ok) rfl ?_
  rintro _ _ ⟨h1, hs1, rfl⟩
  simp only [List.cons_append, List.nil_append]
  repeat' (first | refine mv ?_ | fail)
  refine WX.callQ rfl (index_ct hs1.rs k (by rw [List.length_map]; omega)) rfl ?_
  rw [hi]
  by_cases h0 : 0 ≤ i
  · by_cases hn : i < c.cfg.n
    · have hh : c.has k = true := hfu.1 ⟨h0, hn⟩
      rw [hh]
      repeat' (first | refine go ?_ | refine mv ?_ | (refine I.ld ?_; refine ld rfl ?_) | refine asg ?_ | (refine I.gd ?_; first | refine gy ?_ | refine gT ?_) | (refine I.fa ?_; refine fa ?_) | (refine I.bin ?_; refine cm rfl rfl ?_) | (refine I.pk ?_; refine pT ?_) | fail)
      exact D.fin1 [] _ rfl rfl ⟨by simp [h0, hn], rfl⟩
    · have hh : c.has k = false := by cases h : c.has k with | false => rfl | true => exact absurd (hfu.2 h).2 hn
      rw [hh]
      repeat' (first | refine go ?_ | refine mv ?_ | (refine I.ld ?_; refine ld rfl ?_) | refine asg ?_ | (refine I.gd ?_; first | refine gy ?_ | refine gT ?_) | (refine I.fa ?_; refine fa ?_) | (refine I.bin ?_; refine cm rfl rfl ?_) | (refine I.pk ?_; refine pT ?_) | fail)
      exact D.fin1 [] _ rfl rfl ⟨by simp [h0, hn], rfl⟩
  · have hh : c.has k = false := by cases h : c.has k with | false => rfl | true => exact absurd (hfu.2 h).1 h0
    rw [hh]
    repeat' (first | refine go ?_ | refine mv ?_ | refine asg ?_ | (refine I.gd ?_; first | refine gn ?_ | refine gF ?_) | (refine I.bin ?_; refine cm rfl rfl ?_) | (refine I.pk ?_; refine pF ?_) | fail)
    exact D.fin1 [] _ rfl rfl ⟨by simp [h0], rfl⟩
end Go.Proofs.Ytfcefidmdijjkaa

/-
  master: the block of a master, messages; between, ranged, Up.
-/
set_option linter.unusedVariables false
set_option linter.unusedSimpArgs false
namespace Go.Proofs.Ytfcefidmdijjkaa
open Go Go.Sl

structure Ad4 where
  (k dc rg nd : Int)
  deriving DecidableEq
def Ad4.enc (a : Ad4) : List Value := [.int .i64 a.k, .int .i64 a.dc, .int .i64 a.rg, .int .i64 a.nd]
instance : Enc Ad4 := ⟨4, Ad4.enc, fun _ => rfl, fun _ => rfl, by decide⟩
/-- A message. -/
structure Msg where
  kind : Int
  (fr to : Ad4)
  (ep ix ct op tr : Int)
  cf : Cfg
  en : Ent
  has : Bool
  (key val : ByteArray)
  (dead snap : Bool)
  (dp av : V9)
  (c0 c1 c2 code : Int)
  deriving DecidableEq
def Msg.enc (m : Msg) : List Value :=
  .int .i64 m.kind :: (m.fr.enc ++ (m.to.enc ++ ([.int .i64 m.ep, .int .i64 m.ix, .int .i64 m.ct, .int .i64 m.op, .int .i64 m.tr] ++ (m.cf.enc ++ (m.en.enc ++
    ([.bool m.has, .string m.key, .string m.val, .bool m.dead, .bool m.snap] ++ (m.dp.enc ++ (m.av.enc ++ [.int .i64 m.c0, .int .i64 m.c1, .int .i64 m.c2, .int .i64 m.code]))))))))
instance : Enc Msg := ⟨74, Msg.enc, fun _ => rfl, fun _ => rfl, by decide⟩
def Ad4.z : Ad4 := ⟨0, 0, 0, 0⟩
def Msg.z : Msg := ⟨0, Ad4.z, Ad4.z, 0, 0, 0, 0, 0, Cfg.z, Ent.z, false, ByteArray.empty, ByteArray.empty, false, false, V9.z, V9.z, 0, 0, 0, 0⟩
/-- A master's block. -/
structure Mt where
  (dcs rn nn cl dc : Int)
  d : Nat
  up : Bool
  lg : Option Nat
  (c0 c1 c2 : Cfg)
  (w0 w1 w2 : Option Nat)
def ptrO (o : Option Nat) : Value := .pointer (o.map fun b => ⟨b, 0, none⟩)
def Mt.enc (m : Mt) : List Value :=
  [.int .i64 m.dcs, .int .i64 m.rn, .int .i64 m.nn, .int .i64 m.cl, .int .i64 m.dc, .pointer (some ⟨m.d, 0, none⟩), .bool m.up, ptrO m.lg] ++ (m.c0.enc ++ (m.c1.enc ++ (m.c2.enc ++ [ptrO m.w0, ptrO m.w1, ptrO m.w2])))
abbrev MtBk (b : Nat) (m : Mt) : Hp := [(b, .cells (List.toArray m.enc) 68 (0, 0))]

theorem between_ct (n a z : Int) : Ct Try.prog 16 [.int .i64 n, .int .i64 a, .int .i64 z] [] (fun r H' => r = .bool (decide (a ≤ n ∧ n ≤ z)) ∧ H' = []) := by
  refine Ct.mk' Try.func16 rfl rfl rfl (fun g R => ?_)
  try simp only [List.cons_append]
  simp only [List.nil_append]
  by_cases h0 : a ≤ n
  · repeat' (first | refine go ?_ | refine mv ?_ | refine asg ?_ | (refine I.gd ?_; first | refine gy ?_ | refine gT ?_) | (refine I.bin ?_; refine cm rfl rfl ?_) | (refine I.pk ?_; refine pT ?_) | fail)
    exact D.fin1 [] _ rfl rfl ⟨by simp [h0], rfl⟩
  · repeat' (first | refine go ?_ | refine mv ?_ | refine asg ?_ | (refine I.gd ?_; first | refine gn ?_ | refine gF ?_) | (refine I.bin ?_; refine cm rfl rfl ?_) | (refine I.pk ?_; refine pF ?_) | fail)
    exact D.fin1 [] _ rfl rfl ⟨by simp [h0], rfl⟩
theorem up_ct (b : Nat) (m : Mt) : Ct Try.prog 14 [.pointer (some ⟨b, 0, none⟩)] [MtBk b m] (fun r H' => r = .bool m.up ∧ H' = [MtBk b m]) := by
  refine Ct.mk' Try.func14 rfl rfl rfl (fun g R => ?_)
  try simp only [List.cons_append]
  simp only [List.nil_append]
  repeat' (first | refine go ?_ | refine mv ?_ | (refine I.ld ?_; refine ld rfl ?_) | refine asg ?_ | (refine I.fa ?_; refine fa ?_) | (refine I.nc ?_; refine nc ?_) | fail)
  exact D.fin1 [MtBk b m] _ rfl rfl ⟨rfl, rfl⟩
theorem ranged_ct (b : Nat) {m : Mt} (h1 : 1 ≤ m.rn) (h3 : m.rn ≤ 3) (r : Int) : Ct Try.prog 23 [.pointer (some ⟨b, 0, none⟩), .int .i64 r] [MtBk b m] (fun v H' => v = .bool (decide (m.up = true ∧ 0 ≤ r ∧ r < m.rn)) ∧ H' = [MtBk b m]) := by
  have hb := between_ct r 0 (m.rn - 1)
  refine Ct.mk' Try.func23 rfl rfl rfl (fun g R => ?_)
  try simp only [List.cons_append]
  simp only [List.nil_append]
  cases hu : m.up with
  | false =>
    repeat' (first | refine go ?_ | refine mv ?_ | (refine I.ld ?_; refine ld rfl ?_) | refine asg ?_ | (refine I.fa ?_; refine fa ?_) | (refine I.nc ?_; refine nc ?_) | fail)
    rw [hu]
    repeat' (first | refine go ?_ | refine asg ?_ | (refine I.gd ?_; refine gn ?_) | (refine I.pk ?_; refine pF ?_) | fail)
    exact D.fin1 [MtBk b m] _ rfl rfl ⟨by simp, rfl⟩
  | true =>
    repeat' (first | refine go ?_ | refine mv ?_ | (refine I.ld ?_; refine ld rfl ?_) | refine asg ?_ | (refine I.fa ?_; refine fa ?_) | (refine I.nc ?_; refine nc ?_) | fail)
    rw [hu]
    repeat' (first | refine mv ?_ | (refine I.ld ?_; refine ld rfl ?_) | (refine I.gd ?_; refine gy ?_) | (refine I.fa ?_; refine fa ?_) | (refine I.nc ?_; refine nc ?_) | (refine I.bin ?_; refine su ?_) | fail)
    refine WX.callQ rfl hb rfl ?_
    repeat' (first | refine go ?_ | refine asg ?_ | (refine I.pk ?_; refine pT ?_) | fail)
    exact D.fin1 [MtBk b m] _ rfl rfl ⟨by congr 1; rw [decide_eq_decide]; constructor <;> intro h <;> (first | (refine ⟨rfl, ?_, ?_⟩ <;> omega) | omega), rfl⟩
end Go.Proofs.Ytfcefidmdijjkaa

/-
  A master's log in plain Lean: what is laid is there, all of it durable; the last record of a range is its chain.
-/
set_option linter.unusedVariables false
set_option linter.unusedSimpArgs false
namespace Go.Proofs.Ytfcefidmdijjkaa
open Go Go.Sl

theorem wfold_fine {vs : List Value} : ∀ {its : List It} {C : Cd}, (∀ it ∈ its, ∃ u e, vs[it.o]? = some u ∧ encI it u = some e ∧ longI it u = false) →
    (its.foldl (wstep vs) C).arg = C.arg ∧ (its.foldl (wstep vs) C).long = C.long := by
  intro its
  induction its with
  | nil => intro C _; exact ⟨rfl, rfl⟩
  | cons it r ih =>
    intro C h
    obtain ⟨u, e, h1, h2, h3⟩ := h it (List.mem_cons_self ..)
    obtain ⟨h4, h5⟩ := ih (C := wstep vs C it) (fun x hx => h x (List.mem_cons_of_mem _ hx))
    rw [List.foldl_cons, h4, h5]
    unfold wstep
    rw [h1]
    simp [h2, h3]
/-- What makes a chain a range's. -/
def recE (r : Nat) (c : Cfg) : Rec := ⟨2, Ent.z, c, (r : Int)⟩
def N62 (n : Int) : Prop := 0 ≤ n ∧ n ≤ 4611686018427387904
structure CfgN (c : Cfg) : Prop where
  ep : N62 c.ep
  n : N62 c.n
  a0 : N62 c.f0.nd
  b0 : N62 c.f0.sn
  a1 : N62 c.f1.nd
  b1 : N62 c.f1.sn
  a2 : N62 c.f2.nd
  b2 : N62 c.f2.sn
  a3 : N62 c.f3.nd
  b3 : N62 c.f3.sn
  al : N62 c.le.nd
  bl : N62 c.le.sn
theorem encI_62 {o : Nat} {n : Int} (h : N62 n) : encI (.num o) (.int .i64 n) = some (encN n.toNat) := by
  rw [encI_num, if_neg (by have := h.1; have := h.2; omega)]
theorem recE_code {r : Nat} {c : Cfg} (hr : r ≤ 1000) (h : CfgN c) : (recE r c).code = 0 := by
  have hb : (recE r c).bare = recE r c := rfl
  have hk : (recE r c).known = true := rfl
  have hr62 : N62 (r : Int) := ⟨by omega, by omega⟩
  have key : ∀ it ∈ Rec.its (recE r c).k, ∃ u e, (recE r c).enc[it.o]? = some u ∧ encI it u = some e ∧ longI it u = false := by
    intro it hit
    have hl : Rec.its (recE r c).k = [.num 0, .num 21, .num 22, .num 23, .num 24, .num 25, .num 26, .num 27, .num 28, .num 29, .num 30, .tru 31, .num 32, .num 33, .num 34] := rfl
    rw [hl] at hit
    simp only [List.mem_cons, List.not_mem_nil, or_false] at hit
    rcases hit with rfl | rfl | rfl | rfl | rfl | rfl | rfl | rfl | rfl | rfl | rfl | rfl | rfl | rfl | rfl
    · exact ⟨_, _, rfl, encI_62 (n := 2) ⟨by decide, by decide⟩, rfl⟩
    · exact ⟨_, _, rfl, encI_62 h.ep, rfl⟩
    · exact ⟨_, _, rfl, encI_62 h.n, rfl⟩
    · exact ⟨_, _, rfl, encI_62 h.a0, rfl⟩
    · exact ⟨_, _, rfl, encI_62 h.b0, rfl⟩
    · exact ⟨_, _, rfl, encI_62 h.a1, rfl⟩
    · exact ⟨_, _, rfl, encI_62 h.b1, rfl⟩
    · exact ⟨_, _, rfl, encI_62 h.a2, rfl⟩
    · exact ⟨_, _, rfl, encI_62 h.b2, rfl⟩
    · exact ⟨_, _, rfl, encI_62 h.a3, rfl⟩
    · exact ⟨_, _, rfl, encI_62 h.b3, rfl⟩
    · exact ⟨_, _, rfl, rfl, rfl⟩
    · exact ⟨_, _, rfl, encI_62 h.al, rfl⟩
    · exact ⟨_, _, rfl, encI_62 h.bl, rfl⟩
    · exact ⟨_, _, rfl, encI_62 hr62, rfl⟩
  obtain ⟨h1, h2⟩ := wfold_fine (C := {}) key
  have h3 : (recE r c).w.arg = ((((Rec.its (recE r c).k).foldl (wstep (recE r c).enc) {}).arg || !(recE r c).known) || !decide ((recE r c).bare = recE r c)) := rfl
  have h4 : (recE r c).w.long = ((Rec.its (recE r c).k).foldl (wstep (recE r c).enc) {}).long := rfl
  rw [h1, hk, hb, decide_eq_true rfl] at h3
  rw [h2] at h4
  unfold Rec.code frRes
  rw [if_neg (by rw [h3]; decide), if_neg (by rw [h4]; decide)]
theorem Ch.cfgN {c : Ch} (ok : ChOk c) : CfgN c.cfg := by
  have e1 := ok.e1; have e2 := ok.e2
  have hz : ∀ k, N62 (c.ms.getD k Mem.z).nd ∧ N62 (c.ms.getD k Mem.z).sn := fun k => by
    rw [List.getD_eq_getElem?_getD]
    cases h : c.ms[k]? with
    | none => exact ⟨⟨by decide, by decide⟩, by decide, by decide⟩
    | some m =>
      have := ok.rg m (List.mem_append_left _ (List.mem_of_getElem? h))
      exact ⟨⟨by simp only [Option.getD_some]; omega, by simp only [Option.getD_some]; omega⟩, by simp only [Option.getD_some]; omega, by simp only [Option.getD_some]; omega⟩
  have hl : N62 (c.ln.getD Mem.z).nd ∧ N62 (c.ln.getD Mem.z).sn := by
    cases h : c.ln with
    | none => exact ⟨⟨by decide, by decide⟩, by decide, by decide⟩
    | some m =>
      have := ok.rg m (List.mem_append_right _ (by rw [h]; simp))
      exact ⟨⟨by simp only [Option.getD_some]; omega, by simp only [Option.getD_some]; omega⟩, by simp only [Option.getD_some]; omega, by simp only [Option.getD_some]; omega⟩
  have h4 := ok.l4
  exact ⟨⟨by show 0 ≤ c.ep; omega, by show c.ep ≤ _; omega⟩, ⟨by show (0 : Int) ≤ (c.ms.length : Int); omega, by show (c.ms.length : Int) ≤ _; omega⟩,
    (hz 0).1, (hz 0).2, (hz 1).1, (hz 1).2, (hz 2).1, (hz 2).2, (hz 3).1, (hz 3).2, hl.1, hl.2⟩

/-- A master's log: all of it durable, files numbered from 0 on, nothing but chains in it. -/
structure MLog (l : List Lf) : Prop where
  ok : LOk l
  full : ∀ f ∈ l, f.full = f
  nums : ∀ (i : Nat) (f : Lf), l[i]? = some f → f.n = (i : Int)
  ne : ∀ f ∈ l, f.rs ≠ []
  kind : ∀ r ∈ recs l, r.k = 2
theorem MLog.nil : MLog [] := ⟨LOk.nil, by simp, by simp, by simp, by simp [recs]⟩
def layL (l : List Lf) (r : Nat) (c : Cfg) : List Lf := lsync (ladd1 l (recE r c)).1
theorem ladd_1 {l : List Lf} {r : Rec} : ladd l [r] = ladd1 l r := by
  unfold ladd
  split
  · rfl
  · rename_i h
    unfold ladd
    exact Prod.ext rfl (by simpa using Eq.symm (Classical.not_not.1 h))
theorem recs_sync (l : List Lf) : recs (lsync l) = recs l := by
  unfold recs lsync
  rw [List.map_map]
  rfl
theorem lay_log {l : List Lf} (h : MLog l) {r : Nat} (hr : r ≤ 1000) {c : Cfg} (hc : CfgN c) (hroom : roomB l 1 = true) :
    (ladd1 l (recE r c)).2 = 0 ∧ MLog (layL l r c) ∧ recs (layL l r c) = recs l ++ [recE r c] := by
  have hcode := recE_code hr hc
  have hle := (Rec.good hcode).fr_le
  have hrm : l.length < 63 ∧ ((dk l).used : Int) < 1048576 - 512 := by
    unfold roomB at hroom
    have := of_decide_eq_true hroom
    exact ⟨this.2.2.1, by have := this.2.2.2; omega⟩
  have hok : LOk (layL l r c) := (h.ok.add1 (recE r c)).sync
  have key : (ladd1 l (recE r c)).2 = 0 ∧ recs (ladd1 l (recE r c)).1 = recs l ++ [recE r c] ∧ (∀ (i : Nat) (f : Lf), (ladd1 l (recE r c)).1[i]? = some f → f.n = (i : Int)) ∧ ∀ f ∈ (ladd1 l (recE r c)).1, f.rs ≠ [] := by
    unfold ladd1
    rw [if_neg (by simpa using hcode)]
    rcases List.eq_nil_or_concat l with rfl | ⟨pre, f, rfl⟩
    · refine ⟨rfl, rfl, fun i f hi => ?_, by simp⟩
      cases i with
      | zero => cases hi; rfl
      | succ i => simp at hi
    · rw [List.concat_eq_append] at h hrm ⊢
      simp only [List.getLast?_concat, List.dropLast_concat]
      have hn : f.n = (pre.length : Int) := h.nums pre.length f (by simp)
      have hll : (pre ++ [f]).length = pre.length + 1 := by simp
      by_cases h4 : 4096 ≤ (bytes f.rs).length
      · rw [if_pos h4, if_neg (by omega)]
        refine ⟨rfl, by rw [recs_app, recs_one], fun i x hi => ?_, fun x hx => ?_⟩
        rotate_left
        · rcases List.mem_append.1 hx with hx | hx
          · exact h.ne x hx
          · rw [List.mem_singleton.1 hx]; simp
        rcases Nat.lt_or_ge i (pre ++ [f]).length with hlt | hge
        · rw [List.getElem?_append_left hlt] at hi; exact h.nums i x hi
        · rw [List.getElem?_append_right hge] at hi
          have hi0 : i - (pre ++ [f]).length = 0 := by
            have := (List.getElem?_eq_some_iff.1 hi).1
            simp only [List.length_cons, List.length_nil] at this; omega
          rw [hi0] at hi
          cases hi
          show f.n + 1 = (i : Int)
          omega
      · rw [if_neg h4, if_neg (by omega)]
        refine ⟨rfl, by rw [recs_app, recs_app, recs_one, recs_one, List.append_assoc], fun i x hi => ?_, fun x hx => ?_⟩
        rotate_left
        · rcases List.mem_append.1 hx with hx | hx
          · exact h.ne x (List.mem_append_left _ hx)
          · rw [List.mem_singleton.1 hx]; simp
        rcases Nat.lt_or_ge i pre.length with hlt | hge
        · rw [List.getElem?_append_left hlt] at hi
          exact h.nums i x (by rw [List.getElem?_append_left hlt]; exact hi)
        · rw [List.getElem?_append_right hge] at hi
          have hi0 : i - pre.length = 0 := by
            have := (List.getElem?_eq_some_iff.1 hi).1
            simp only [List.length_cons, List.length_nil] at this; omega
          rw [hi0] at hi
          cases hi
          show f.n = (i : Int)
          omega
  obtain ⟨k1, k2, k3, k4⟩ := key
  have hrec : recs (layL l r c) = recs l ++ [recE r c] := by unfold layL; rw [recs_sync, k2]
  refine ⟨k1, ⟨hok, fun f hf => ?_, fun i f hi => ?_, fun f hf => ?_, fun x hx => ?_⟩, hrec⟩
  · unfold layL lsync at hf
    obtain ⟨y, _, rfl⟩ := List.mem_map.1 hf
    rfl
  · unfold layL lsync at hi
    rw [List.getElem?_map] at hi
    cases hy : (ladd1 l (recE r c)).1[i]? with
    | none => rw [hy] at hi; cases hi
    | some y => rw [hy] at hi; cases hi; exact k3 i y hy
  · unfold layL lsync at hf
    obtain ⟨y, hy, rfl⟩ := List.mem_map.1 hf
    exact k4 y hy
  · rw [hrec] at hx
    rcases List.mem_append.1 hx with hx | hx
    · exact h.kind x hx
    · rw [List.mem_singleton.1 hx]; rfl
theorem outF_kind {rs : List Rec} (h : ∀ r ∈ rs, r.k = 2) : outF rs = rs := by
  have key : ∀ (rs o : List Rec), (∀ r ∈ rs, r.k = 2) → rs.foldl (fun o r => if r.k = 3 then [] else o ++ [r]) o = o ++ rs := by
    intro rs
    induction rs with
    | nil => intro o _; simp
    | cons r t ih =>
      intro o h
      have h2 := h r (List.mem_cons_self ..)
      rw [List.foldl_cons, if_neg (by omega), ih _ (fun x hx => h x (List.mem_cons_of_mem _ hx)), List.append_assoc]
      rfl
  have := key rs [] h
  simpa [outF] using this
/-- The chain that the records say of a range. -/
def rep (rs : List Rec) (i : Nat) : Cfg := rs.foldl (fun c r => if r.base = (i : Int) then r.c else c) Cfg.z
theorem rep_snoc (rs : List Rec) (x : Rec) (i : Nat) : rep (rs ++ [x]) i = if x.base = (i : Int) then x.c else rep rs i := by unfold rep; rw [List.foldl_append]; rfl
theorem rep_lay (rs : List Rec) (r i : Nat) (c : Cfg) : rep (rs ++ [recE r c]) i = if i = r then c else rep rs i := by
  rw [rep_snoc]
  by_cases h : i = r
  · rw [if_pos h, if_pos (by show (r : Int) = (i : Int); omega)]; rfl
  · rw [if_neg h, if_neg (by show ¬ (r : Int) = (i : Int); omega)]
theorem MLog.len {l : List Lf} (h : MLog l) : l.length ≤ (recs l).length := by
  have key : ∀ l : List Lf, (∀ f ∈ l, f.rs ≠ []) → l.length ≤ (recs l).length := by
    intro l
    induction l with
    | nil => intro _; exact Nat.zero_le _
    | cons f t ih =>
      intro hn
      have h1 := ih fun x hx => hn x (List.mem_cons_of_mem _ hx)
      have h2 := List.length_pos_iff.2 (hn f (List.mem_cons_self ..))
      rw [show f :: t = [f] ++ t from rfl, recs_app, recs_one, List.length_append, List.length_append, List.length_singleton]
      omega
  exact key l h.ne
theorem MLog.used {l : List Lf} (h : MLog l) : (dk l).used ≤ 243 * (recs l).length := by
  have key : ∀ l : List Lf, (∀ f ∈ l, ∀ r ∈ f.rs, r.code = 0) → (dk l).used ≤ 243 * (recs l).length := by
    intro l
    induction l with
    | nil => intro _; exact Nat.le_refl _
    | cons f t ih =>
      intro hg
      have h1 := ih fun x hx => hg x (List.mem_cons_of_mem _ hx)
      have h2 : ∀ rs : List Rec, (∀ r ∈ rs, r.code = 0) → (bytes rs).length ≤ 243 * rs.length := by
        intro rs
        induction rs with
        | nil => intro _; exact Nat.le_refl _
        | cons r t ih =>
          intro hr
          have := (Rec.good (hr r (List.mem_cons_self ..))).fr_le
          have := ih fun x hx => hr x (List.mem_cons_of_mem _ hx)
          rw [bytes_cons, List.length_append, List.length_cons]; omega
      have h3 := h2 f.rs (hg f (List.mem_cons_self ..))
      rw [show f :: t = [f] ++ t from rfl, recs_app, recs_one, List.length_append]
      rw [dk_used] at h1 ⊢
      rw [List.map_append, List.sum_append]
      simp only [List.map_cons, List.map_nil, List.sum_cons, List.sum_nil]
      omega
  exact key l h.ok.good
/-- As long as there are few, there is room. -/
theorem room_few {l : List Lf} (h : MLog l) (hf : (recs l).length ≤ 62) : roomB l 1 = true := by
  have h1 := h.len
  have h2 := h.used
  unfold roomB
  exact decide_eq_true ⟨by decide, by decide, by omega, by omega⟩
end Go.Proofs.Ytfcefidmdijjkaa

/-
  watch: what each function does.
-/
set_option linter.unusedVariables false
set_option linter.unusedSimpArgs false
namespace Go.Proofs.Ytfcefidmdijjkaa
open Go Go.Sl

/-- A watch at block b: for how long each has been silent. -/
def WAt (T b : Nat) (xs : List Int) (h : Hp) : Prop := ∃ v hv, h = (b, .cells (List.toArray [v]) T (0, 0)) :: hv ∧ IsSl 3 xs v hv
def heard1 (xs : List Int) (i : Int) : List Int := if 0 ≤ i ∧ i < xs.length then xs.set i.toNat 0 else xs
def heardL (xs is : List Int) : List Int := is.foldl heard1 xs
def tick1 (s : Int) : Int := if 1099511627776 < s + 1 then 1099511627776 else s + 1
def tickL (xs : List Int) : List Int := xs.map tick1
theorem heard1_len (xs : List Int) (i : Int) : (heard1 xs i).length = xs.length := by unfold heard1; split <;> simp
theorem heardL_len (xs is : List Int) : (heardL xs is).length = xs.length := by
  unfold heardL
  induction is generalizing xs with
  | nil => rfl
  | cons i r ih => rw [List.foldl_cons, ih, heard1_len]
theorem heardL_snoc {xs is : List Int} {k : Nat} {i : Int} (h : is[k]? = some i) : heardL xs (is.take (k + 1)) = heard1 (heardL xs (is.take k)) i := by
  unfold heardL
  rw [List.take_add_one, h]
  simp [List.foldl_append]

theorem has_ct {b : Nat} {xs : List Int} {h : Hp} (hw : WAt 95 b xs h) (i : Int) :
    Ct Try.prog 46 [.pointer (some ⟨b, 0, none⟩), .int .i64 i] [h] (fun v H' => v = .bool (decide (0 ≤ i ∧ i < xs.length)) ∧ H' = [h]) := by
  obtain ⟨v, hv, rfl, hs⟩ := hw
  have hr := hs.rs
  refine Ct.mk' Try.func46 rfl rfl rfl (fun g R => ?_)
  try simp only [List.cons_append]
  simp only [List.nil_append]
  repeat' (first
  | refine W.seq ?_ | refine W.region ?_ | refine WX.nil ?_ | refine D.seq ?_ | refine W.block ?_ | refine D.blk ?_ | refine W.skip ?_ | refine W.exit ?_ | refine W.ret ?_
  | refine WM.nil ?_ | refine WM.un ?_ | refine WM.an ?_ | refine WM.backU ?_ | refine WM.back ?_
  | refine D.blkX ?_ | refine D.blkY rfl ?_ | refine D.roundX ?_ | refine D.roundR ?_ | refine D.blkR ?_
  | (refine I.gd ?_; first | refine WX.gy rfl rfl ?_ | refine WX.gn rfl rfl rfl rfl ?_ | refine WX.gnN rfl rfl rfl ?_ | refine WX.gu rfl rfl rfl ?_ | refine WX.guN rfl rfl ?_ | refine WX.gT rfl rfl (by first | assumption | omega) ?_ | refine WX.gF rfl rfl (by first | assumption | omega) ?_ | refine WX.gS rfl rfl (fun _ => ?_) (fun _ => ?_))
  | (refine I.cond ?_; first | refine W.condT rfl ?_ | refine W.condF rfl ?_ | refine W.condP rfl (by first | assumption | omega) ?_ | refine W.condN rfl (by first | assumption | omega) ?_)
  | (refine I.mv ?_; refine WX.move rfl rfl ?_) | (refine I.as ?_; refine WX.assign rfl rfl ?_)
  | (refine I.nc ?_; first | refine WX.nilCheck rfl rfl ?_ | refine WX.nilE rfl (by assumption) (by assumption) rfl ?_)
  | (refine I.fa ?_; first | refine WX.fieldAddr rfl rfl ?_ | refine WX.fieldE rfl (by assumption) (by assumption) rfl ?_)
  | (refine I.ld ?_; first | refine WX.load rfl rfl rfl ?_ | refine WX.loadE rfl (by assumption) (by assumption) rfl rfl rfl ?_ | refine WX.loadA rfl rfl rfl rfl ?_ | refine WX.loadEW rfl (by assumption) (by assumption) rfl rfl ?_)
  | (refine I.bin ?_; first | refine WX.lss rfl rfl rfl ?_ | refine WX.eql rfl rfl rfl ?_ | refine WX.neq rfl rfl rfl ?_ | refine WX.leq rfl rfl rfl ?_ | refine WX.gtr rfl rfl rfl ?_ | refine WX.geq rfl rfl rfl ?_ | refine WX.add rfl rfl rfl (by omega) ?_ | refine WX.sub' rfl rfl rfl (by omega) ?_ | refine WX.eqPN rfl rfl rfl ?_ | refine WX.nePN rfl rfl rfl ?_ | refine WX.eqNN rfl rfl rfl ?_ | refine WX.neNN rfl rfl rfl ?_)
  | (refine I.un ?_; first | refine WX.notD rfl rfl ?_ | refine WX.not rfl rfl ?_)
  | (refine I.pk ?_; first | refine WX.pickT rfl rfl rfl ?_ | refine WX.pickF rfl rfl rfl ?_)
  | (refine I.bi ?_; first | refine WX.lenSl rfl (by assumption) rfl ?_ | refine WX.len rfl rfl ?_ | refine WX.lenS rfl rfl ?_ | refine WX.min rfl rfl rfl ?_ | refine WX.max rfl rfl rfl ?_)
  | (refine I.ix ?_; first | refine WX.idx rfl rfl (by assumption) (by assumption) rfl ?_ | refine WX.idxI rfl rfl (by assumption) (by omega) (by assumption) rfl ?_ | refine WX.idxP rfl rfl (by omega) rfl ?_)
  | (refine I.sl ?_; refine WX.slTo rfl rfl (by assumption) (by omega) rfl ?_)
  | (refine I.st ?_; first | (refine WX.store rfl rfl rfl rfl ?_; try simp only [List.set_cons_zero, List.set_cons_succ, Nat.reduceAdd]) | (refine WX.storeG rfl rfl rfl rfl rfl rfl ?_; try simp only [setAt, List.set_cons_zero, List.set_cons_succ, Nat.reduceAdd]; try rw [setAt_whole (by rfl)]))
  | (refine I.bd ?_; refine WX.build rfl rfl rfl ?_; try simp only [setAt, Value.cells, List.set_cons_zero, List.set_cons_succ]) | (refine I.bx ?_; refine WX.box rfl rfl rfl (fun _ => ?_)) | (refine I.al ?_; refine WX.alloc rfl (fun _ => ?_)) | (refine I.ex ?_; refine WX.extract rfl rfl rfl ?_))
  · exact D.fin1 [_] _ rfl rfl ⟨by simp [*], rfl⟩
  · exact D.fin1 [_] _ rfl rfl ⟨by simp [*], rfl⟩

theorem heard_ct {b : Nat} {xs is : List Int} {u : Value} {h hi : Hp} (hw : WAt 95 b xs h) (hs : Rs is u hi) (hb : is.length ≤ 1000000) :
    Ct Try.prog 27 [.pointer (some ⟨b, 0, none⟩), u] [h, hi] (fun v H' => v = .tuple #[] ∧ ∃ h', H' = [h', hi] ∧ WAt 95 b (heardL xs is) h') := by
  refine Ct.mk' Try.func27 rfl rfl rfl (fun g R => ?_)
  try simp only [List.cons_append]
  simp only [List.nil_append]
  repeat' (first
  | refine W.seq ?_ | refine W.region ?_ | refine WX.nil ?_ | refine D.seq ?_ | refine W.block ?_ | refine D.blk ?_ | refine W.skip ?_ | refine W.exit ?_ | refine W.ret ?_
  | refine WM.nil ?_ | refine WM.un ?_ | refine WM.an ?_ | refine WM.backU ?_ | refine WM.back ?_
  | refine D.blkX ?_ | refine D.blkY rfl ?_ | refine D.roundX ?_ | refine D.roundR ?_ | refine D.blkR ?_
  | (refine I.gd ?_; first | refine WX.gy rfl rfl ?_ | refine WX.gn rfl rfl rfl rfl ?_ | refine WX.gnN rfl rfl rfl ?_ | refine WX.gu rfl rfl rfl ?_ | refine WX.guN rfl rfl ?_ | refine WX.gT rfl rfl (by first | assumption | omega) ?_ | refine WX.gF rfl rfl (by first | assumption | omega) ?_ | refine WX.gS rfl rfl (fun _ => ?_) (fun _ => ?_))
  | (refine I.cond ?_; first | refine W.condT rfl ?_ | refine W.condF rfl ?_ | refine W.condP rfl (by first | assumption | omega) ?_ | refine W.condN rfl (by first | assumption | omega) ?_)
  | (refine I.mv ?_; refine WX.move rfl rfl ?_) | (refine I.as ?_; refine WX.assign rfl rfl ?_)
  | (refine I.nc ?_; first | refine WX.nilCheck rfl rfl ?_ | refine WX.nilE rfl (by assumption) (by assumption) rfl ?_)
  | (refine I.fa ?_; first | refine WX.fieldAddr rfl rfl ?_ | refine WX.fieldE rfl (by assumption) (by assumption) rfl ?_)
  | (refine I.ld ?_; first | refine WX.load rfl rfl rfl ?_ | refine WX.loadE rfl (by assumption) (by assumption) rfl rfl rfl ?_ | refine WX.loadA rfl rfl rfl rfl ?_ | refine WX.loadEW rfl (by assumption) (by assumption) rfl rfl ?_)
  | (refine I.bin ?_; first | refine WX.lss rfl rfl rfl ?_ | refine WX.eql rfl rfl rfl ?_ | refine WX.neq rfl rfl rfl ?_ | refine WX.leq rfl rfl rfl ?_ | refine WX.gtr rfl rfl rfl ?_ | refine WX.geq rfl rfl rfl ?_ | refine WX.add rfl rfl rfl (by omega) ?_ | refine WX.sub' rfl rfl rfl (by omega) ?_ | refine WX.eqPN rfl rfl rfl ?_ | refine WX.nePN rfl rfl rfl ?_ | refine WX.eqNN rfl rfl rfl ?_ | refine WX.neNN rfl rfl rfl ?_)
  | (refine I.un ?_; first | refine WX.notD rfl rfl ?_ | refine WX.not rfl rfl ?_)
  | (refine I.pk ?_; first | refine WX.pickT rfl rfl rfl ?_ | refine WX.pickF rfl rfl rfl ?_)
  | (refine I.bi ?_; first | refine WX.lenSl rfl (by assumption) rfl ?_ | refine WX.len rfl rfl ?_ | refine WX.lenS rfl rfl ?_ | refine WX.min rfl rfl rfl ?_ | refine WX.max rfl rfl rfl ?_)
  | (refine I.ix ?_; first | refine WX.idx rfl rfl (by assumption) (by assumption) rfl ?_ | refine WX.idxI rfl rfl (by assumption) (by omega) (by assumption) rfl ?_ | refine WX.idxP rfl rfl (by omega) rfl ?_)
  | (refine I.sl ?_; refine WX.slTo rfl rfl (by assumption) (by omega) rfl ?_)
  | (refine I.st ?_; first | (refine WX.store rfl rfl rfl rfl ?_; try simp only [List.set_cons_zero, List.set_cons_succ, Nat.reduceAdd]) | (refine WX.storeG rfl rfl rfl rfl rfl rfl ?_; try simp only [setAt, List.set_cons_zero, List.set_cons_succ, Nat.reduceAdd]; try rw [setAt_whole (by rfl)]))
  | (refine I.bd ?_; refine WX.build rfl rfl rfl ?_; try simp only [setAt, Value.cells, List.set_cons_zero, List.set_cons_succ]) | (refine I.bx ?_; refine WX.box rfl rfl rfl (fun _ => ?_)) | (refine I.al ?_; refine WX.alloc rfl (fun _ => ?_)) | (refine I.ex ?_; refine WX.extract rfl rfl rfl ?_))
  refine W.loop (α := Nat × Hp) (fun x => x.1 ≤ is.length ∧ WAt 95 b (heardL xs (is.take x.1)) x.2)
    (fun x => [(0, .pointer (some ⟨b, 0, none⟩)), (6, u), (7, .int .i64 is.length), (8, .int .i64 (x.1 : Int))]) (fun x => [x.2, hi, R]) (fun x => is.length - x.1) (0, h) ⟨by omega, by simpa [heardL] using hw⟩ (by repeat (first | exact Fsub.nil | refine Fsub.cons rfl ?_)) (Hsub.of_picks inferInstance) ?_
  rintro ⟨k, h'⟩ ⟨hk, hw'⟩
  simp only []
  by_cases hlt : k < is.length
  · obtain ⟨i, hki⟩ : ∃ i, is[k]? = some i := ⟨_, List.getElem?_eq_getElem hlt⟩
    repeat' (first
  | refine W.seq ?_ | refine W.region ?_ | refine WX.nil ?_ | refine D.seq ?_ | refine W.block ?_ | refine D.blk ?_ | refine W.skip ?_ | refine W.exit ?_ | refine W.ret ?_
  | refine WM.nil ?_ | refine WM.un ?_ | refine WM.an ?_ | refine WM.backU ?_ | refine WM.back ?_
  | refine D.blkX ?_ | refine D.blkY rfl ?_ | refine D.roundX ?_ | refine D.roundR ?_ | refine D.blkR ?_
  | (refine I.gd ?_; first | refine WX.gy rfl rfl ?_ | refine WX.gn rfl rfl rfl rfl ?_ | refine WX.gnN rfl rfl rfl ?_ | refine WX.gu rfl rfl rfl ?_ | refine WX.guN rfl rfl ?_ | refine WX.gT rfl rfl (by first | assumption | omega) ?_ | refine WX.gF rfl rfl (by first | assumption | omega) ?_ | refine WX.gS rfl rfl (fun _ => ?_) (fun _ => ?_))
  | (refine I.cond ?_; first | refine W.condT rfl ?_ | refine W.condF rfl ?_ | refine W.condP rfl (by first | assumption | omega) ?_ | refine W.condN rfl (by first | assumption | omega) ?_)
  | (refine I.mv ?_; refine WX.move rfl rfl ?_) | (refine I.as ?_; refine WX.assign rfl rfl ?_)
  | (refine I.nc ?_; first | refine WX.nilCheck rfl rfl ?_ | refine WX.nilE rfl (by assumption) (by assumption) rfl ?_)
  | (refine I.fa ?_; first | refine WX.fieldAddr rfl rfl ?_ | refine WX.fieldE rfl (by assumption) (by assumption) rfl ?_)
  | (refine I.ld ?_; first | refine WX.load rfl rfl rfl ?_ | refine WX.loadE rfl (by assumption) (by assumption) rfl rfl rfl ?_ | refine WX.loadA rfl rfl rfl rfl ?_ | refine WX.loadEW rfl (by assumption) (by assumption) rfl rfl ?_)
  | (refine I.bin ?_; first | refine WX.lss rfl rfl rfl ?_ | refine WX.eql rfl rfl rfl ?_ | refine WX.neq rfl rfl rfl ?_ | refine WX.leq rfl rfl rfl ?_ | refine WX.gtr rfl rfl rfl ?_ | refine WX.geq rfl rfl rfl ?_ | refine WX.add rfl rfl rfl (by omega) ?_ | refine WX.sub' rfl rfl rfl (by omega) ?_ | refine WX.eqPN rfl rfl rfl ?_ | refine WX.nePN rfl rfl rfl ?_ | refine WX.eqNN rfl rfl rfl ?_ | refine WX.neNN rfl rfl rfl ?_)
  | (refine I.un ?_; first | refine WX.notD rfl rfl ?_ | refine WX.not rfl rfl ?_)
  | (refine I.pk ?_; first | refine WX.pickT rfl rfl rfl ?_ | refine WX.pickF rfl rfl rfl ?_)
  | (refine I.bi ?_; first | refine WX.lenSl rfl (by assumption) rfl ?_ | refine WX.len rfl rfl ?_ | refine WX.lenS rfl rfl ?_ | refine WX.min rfl rfl rfl ?_ | refine WX.max rfl rfl rfl ?_)
  | (refine I.ix ?_; first | refine WX.idx rfl rfl (by assumption) (by assumption) rfl ?_ | refine WX.idxI rfl rfl (by assumption) (by omega) (by assumption) rfl ?_ | refine WX.idxP rfl rfl (by omega) rfl ?_)
  | (refine I.sl ?_; refine WX.slTo rfl rfl (by assumption) (by omega) rfl ?_)
  | (refine I.st ?_; first | (refine WX.store rfl rfl rfl rfl ?_; try simp only [List.set_cons_zero, List.set_cons_succ, Nat.reduceAdd]) | (refine WX.storeG rfl rfl rfl rfl rfl rfl ?_; try simp only [setAt, List.set_cons_zero, List.set_cons_succ, Nat.reduceAdd]; try rw [setAt_whole (by rfl)]))
  | (refine I.bd ?_; refine WX.build rfl rfl rfl ?_; try simp only [setAt, Value.cells, List.set_cons_zero, List.set_cons_succ]) | (refine I.bx ?_; refine WX.box rfl rfl rfl (fun _ => ?_)) | (refine I.al ?_; refine WX.alloc rfl (fun _ => ?_)) | (refine I.ex ?_; refine WX.extract rfl rfl rfl ?_))
    refine WX.callQ rfl (has_ct hw' i) rfl ?_
    obtain ⟨v, hv, rfl, hs'⟩ := hw'
    have hr' := hs'.rs
    by_cases hc : 0 ≤ i ∧ i < (heardL xs (is.take k)).length
    · obtain ⟨h0, h1⟩ := hc
      obtain ⟨y, hy⟩ : ∃ y, (heardL xs (is.take k))[i.toNat]? = some y := ⟨_, List.getElem?_eq_getElem (by omega)⟩
      have hc : 0 ≤ i ∧ i < (heardL xs (is.take k)).length := ⟨h0, h1⟩
      repeat' (first
  | refine W.seq ?_ | refine W.region ?_ | refine WX.nil ?_ | refine D.seq ?_ | refine W.block ?_ | refine D.blk ?_ | refine W.skip ?_ | refine W.exit ?_ | refine W.ret ?_
  | refine WM.nil ?_ | refine WM.un ?_ | refine WM.an ?_ | refine WM.backU ?_ | refine WM.back ?_
  | refine D.blkX ?_ | refine D.blkY rfl ?_ | refine D.roundX ?_ | refine D.roundR ?_ | refine D.blkR ?_
  | (refine I.gd ?_; first | refine WX.gy rfl rfl ?_ | refine WX.gn rfl rfl rfl rfl ?_ | refine WX.gnN rfl rfl rfl ?_ | refine WX.gu rfl rfl rfl ?_ | refine WX.guN rfl rfl ?_ | refine WX.gT rfl rfl (by first | assumption | omega) ?_ | refine WX.gF rfl rfl (by first | assumption | omega) ?_ | refine WX.gS rfl rfl (fun _ => ?_) (fun _ => ?_))
  | (refine I.cond ?_; first | refine W.condT rfl ?_ | refine W.condF rfl ?_ | refine W.condP rfl (by first | assumption | omega) ?_ | refine W.condN rfl (by first | assumption | omega) ?_)
  | (refine I.mv ?_; refine WX.move rfl rfl ?_) | (refine I.as ?_; refine WX.assign rfl rfl ?_)
  | (refine I.nc ?_; first | refine WX.nilCheck rfl rfl ?_ | refine WX.nilE rfl (by assumption) (by assumption) rfl ?_)
  | (refine I.fa ?_; first | refine WX.fieldAddr rfl rfl ?_ | refine WX.fieldE rfl (by assumption) (by assumption) rfl ?_)
  | (refine I.ld ?_; first | refine WX.load rfl rfl rfl ?_ | refine WX.loadE rfl (by assumption) (by assumption) rfl rfl rfl ?_ | refine WX.loadA rfl rfl rfl rfl ?_ | refine WX.loadEW rfl (by assumption) (by assumption) rfl rfl ?_)
  | (refine I.bin ?_; first | refine WX.lss rfl rfl rfl ?_ | refine WX.eql rfl rfl rfl ?_ | refine WX.neq rfl rfl rfl ?_ | refine WX.leq rfl rfl rfl ?_ | refine WX.gtr rfl rfl rfl ?_ | refine WX.geq rfl rfl rfl ?_ | refine WX.add rfl rfl rfl (by omega) ?_ | refine WX.sub' rfl rfl rfl (by omega) ?_ | refine WX.eqPN rfl rfl rfl ?_ | refine WX.nePN rfl rfl rfl ?_ | refine WX.eqNN rfl rfl rfl ?_ | refine WX.neNN rfl rfl rfl ?_)
  | (refine I.un ?_; first | refine WX.notD rfl rfl ?_ | refine WX.not rfl rfl ?_)
  | (refine I.pk ?_; first | refine WX.pickT rfl rfl rfl ?_ | refine WX.pickF rfl rfl rfl ?_)
  | (refine I.bi ?_; first | refine WX.lenSl rfl (by assumption) rfl ?_ | refine WX.len rfl rfl ?_ | refine WX.lenS rfl rfl ?_ | refine WX.min rfl rfl rfl ?_ | refine WX.max rfl rfl rfl ?_)
  | (refine I.ix ?_; first | refine WX.idx rfl rfl (by assumption) (by assumption) rfl ?_ | refine WX.idxI rfl rfl (by assumption) (by omega) (by assumption) rfl ?_ | refine WX.idxP rfl rfl (by omega) rfl ?_)
  | (refine I.sl ?_; refine WX.slTo rfl rfl (by assumption) (by omega) rfl ?_)
  | (refine I.st ?_; first | (refine WX.store rfl rfl rfl rfl ?_; try simp only [List.set_cons_zero, List.set_cons_succ, Nat.reduceAdd]) | (refine WX.storeG rfl rfl rfl rfl rfl rfl ?_; try simp only [setAt, List.set_cons_zero, List.set_cons_succ, Nat.reduceAdd]; try rw [setAt_whole (by rfl)]))
  | (refine I.bd ?_; refine WX.build rfl rfl rfl ?_; try simp only [setAt, Value.cells, List.set_cons_zero, List.set_cons_succ]) | (refine I.bx ?_; refine WX.box rfl rfl rfl (fun _ => ?_)) | (refine I.al ?_; refine WX.alloc rfl (fun _ => ?_)) | (refine I.ex ?_; refine WX.extract rfl rfl rfl ?_))
      refine WX.storeE (y' := 0) rfl rfl rfl hs' hy rfl rfl rfl rfl rfl (fun h2 hs2 => ?_)
      repeat' (first
  | refine W.seq ?_ | refine W.region ?_ | refine WX.nil ?_ | refine D.seq ?_ | refine W.block ?_ | refine D.blk ?_ | refine W.skip ?_ | refine W.exit ?_ | refine W.ret ?_
  | refine WM.nil ?_ | refine WM.un ?_ | refine WM.an ?_ | refine WM.backU ?_ | refine WM.back ?_
  | refine D.blkX ?_ | refine D.blkY rfl ?_ | refine D.roundX ?_ | refine D.roundR ?_ | refine D.blkR ?_
  | (refine I.gd ?_; first | refine WX.gy rfl rfl ?_ | refine WX.gn rfl rfl rfl rfl ?_ | refine WX.gnN rfl rfl rfl ?_ | refine WX.gu rfl rfl rfl ?_ | refine WX.guN rfl rfl ?_ | refine WX.gT rfl rfl (by first | assumption | omega) ?_ | refine WX.gF rfl rfl (by first | assumption | omega) ?_ | refine WX.gS rfl rfl (fun _ => ?_) (fun _ => ?_))
  | (refine I.cond ?_; first | refine W.condT rfl ?_ | refine W.condF rfl ?_ | refine W.condP rfl (by first | assumption | omega) ?_ | refine W.condN rfl (by first | assumption | omega) ?_)
  | (refine I.mv ?_; refine WX.move rfl rfl ?_) | (refine I.as ?_; refine WX.assign rfl rfl ?_)
  | (refine I.nc ?_; first | refine WX.nilCheck rfl rfl ?_ | refine WX.nilE rfl (by assumption) (by assumption) rfl ?_)
  | (refine I.fa ?_; first | refine WX.fieldAddr rfl rfl ?_ | refine WX.fieldE rfl (by assumption) (by assumption) rfl ?_)
  | (refine I.ld ?_; first | refine WX.load rfl rfl rfl ?_ | refine WX.loadE rfl (by assumption) (by assumption) rfl rfl rfl ?_ | refine WX.loadA rfl rfl rfl rfl ?_ | refine WX.loadEW rfl (by assumption) (by assumption) rfl rfl ?_)
  | (refine I.bin ?_; first | refine WX.lss rfl rfl rfl ?_ | refine WX.eql rfl rfl rfl ?_ | refine WX.neq rfl rfl rfl ?_ | refine WX.leq rfl rfl rfl ?_ | refine WX.gtr rfl rfl rfl ?_ | refine WX.geq rfl rfl rfl ?_ | refine WX.add rfl rfl rfl (by omega) ?_ | refine WX.sub' rfl rfl rfl (by omega) ?_ | refine WX.eqPN rfl rfl rfl ?_ | refine WX.nePN rfl rfl rfl ?_ | refine WX.eqNN rfl rfl rfl ?_ | refine WX.neNN rfl rfl rfl ?_)
  | (refine I.un ?_; first | refine WX.notD rfl rfl ?_ | refine WX.not rfl rfl ?_)
  | (refine I.pk ?_; first | refine WX.pickT rfl rfl rfl ?_ | refine WX.pickF rfl rfl rfl ?_)
  | (refine I.bi ?_; first | refine WX.lenSl rfl (by assumption) rfl ?_ | refine WX.len rfl rfl ?_ | refine WX.lenS rfl rfl ?_ | refine WX.min rfl rfl rfl ?_ | refine WX.max rfl rfl rfl ?_)
  | (refine I.ix ?_; first | refine WX.idx rfl rfl (by assumption) (by assumption) rfl ?_ | refine WX.idxI rfl rfl (by assumption) (by omega) (by assumption) rfl ?_ | refine WX.idxP rfl rfl (by omega) rfl ?_)
  | (refine I.sl ?_; refine WX.slTo rfl rfl (by assumption) (by omega) rfl ?_)
  | (refine I.st ?_; first | (refine WX.store rfl rfl rfl rfl ?_; try simp only [List.set_cons_zero, List.set_cons_succ, Nat.reduceAdd]) | (refine WX.storeG rfl rfl rfl rfl rfl rfl ?_; try simp only [setAt, List.set_cons_zero, List.set_cons_succ, Nat.reduceAdd]; try rw [setAt_whole (by rfl)]))
  | (refine I.bd ?_; refine WX.build rfl rfl rfl ?_; try simp only [setAt, Value.cells, List.set_cons_zero, List.set_cons_succ]) | (refine I.bx ?_; refine WX.box rfl rfl rfl (fun _ => ?_)) | (refine I.al ?_; refine WX.alloc rfl (fun _ => ?_)) | (refine I.ex ?_; refine WX.extract rfl rfl rfl ?_))
      refine D.round (k + 1, (b, .cells (List.toArray [v]) 95 (0, 0)) :: h2) ⟨by simp only []; omega, ?_⟩ (by simp only []; omega) (by repeat (first | exact Fsub.nil | refine Fsub.cons rfl ?_)) (Hsub.of_picks inferInstance)
      simp only []
      rw [heardL_snoc hki, heard1, if_pos hc]
      exact ⟨_, _, rfl, hs2⟩
    · repeat' (first
  | refine W.seq ?_ | refine W.region ?_ | refine WX.nil ?_ | refine D.seq ?_ | refine W.block ?_ | refine D.blk ?_ | refine W.skip ?_ | refine W.exit ?_ | refine W.ret ?_
  | refine WM.nil ?_ | refine WM.un ?_ | refine WM.an ?_ | refine WM.backU ?_ | refine WM.back ?_
  | refine D.blkX ?_ | refine D.blkY rfl ?_ | refine D.roundX ?_ | refine D.roundR ?_ | refine D.blkR ?_
  | (refine I.gd ?_; first | refine WX.gy rfl rfl ?_ | refine WX.gn rfl rfl rfl rfl ?_ | refine WX.gnN rfl rfl rfl ?_ | refine WX.gu rfl rfl rfl ?_ | refine WX.guN rfl rfl ?_ | refine WX.gT rfl rfl (by first | assumption | omega) ?_ | refine WX.gF rfl rfl (by first | assumption | omega) ?_ | refine WX.gS rfl rfl (fun _ => ?_) (fun _ => ?_))
  | (refine I.cond ?_; first | refine W.condT rfl ?_ | refine W.condF rfl ?_ | refine W.condP rfl (by first | assumption | omega) ?_ | refine W.condN rfl (by first | assumption | omega) ?_)
  | (refine I.mv ?_; refine WX.move rfl rfl ?_) | (refine I.as ?_; refine WX.assign rfl rfl ?_)
  | (refine I.nc ?_; first | refine WX.nilCheck rfl rfl ?_ | refine WX.nilE rfl (by assumption) (by assumption) rfl ?_)
  | (refine I.fa ?_; first | refine WX.fieldAddr rfl rfl ?_ | refine WX.fieldE rfl (by assumption) (by assumption) rfl ?_)
  | (refine I.ld ?_; first | refine WX.load rfl rfl rfl ?_ | refine WX.loadE rfl (by assumption) (by assumption) rfl rfl rfl ?_ | refine WX.loadA rfl rfl rfl rfl ?_ | refine WX.loadEW rfl (by assumption) (by assumption) rfl rfl ?_)
  | (refine I.bin ?_; first | refine WX.lss rfl rfl rfl ?_ | refine WX.eql rfl rfl rfl ?_ | refine WX.neq rfl rfl rfl ?_ | refine WX.leq rfl rfl rfl ?_ | refine WX.gtr rfl rfl rfl ?_ | refine WX.geq rfl rfl rfl ?_ | refine WX.add rfl rfl rfl (by omega) ?_ | refine WX.sub' rfl rfl rfl (by omega) ?_ | refine WX.eqPN rfl rfl rfl ?_ | refine WX.nePN rfl rfl rfl ?_ | refine WX.eqNN rfl rfl rfl ?_ | refine WX.neNN rfl rfl rfl ?_)
  | (refine I.un ?_; first | refine WX.notD rfl rfl ?_ | refine WX.not rfl rfl ?_)
  | (refine I.pk ?_; first | refine WX.pickT rfl rfl rfl ?_ | refine WX.pickF rfl rfl rfl ?_)
  | (refine I.bi ?_; first | refine WX.lenSl rfl (by assumption) rfl ?_ | refine WX.len rfl rfl ?_ | refine WX.lenS rfl rfl ?_ | refine WX.min rfl rfl rfl ?_ | refine WX.max rfl rfl rfl ?_)
  | (refine I.ix ?_; first | refine WX.idx rfl rfl (by assumption) (by assumption) rfl ?_ | refine WX.idxI rfl rfl (by assumption) (by omega) (by assumption) rfl ?_ | refine WX.idxP rfl rfl (by omega) rfl ?_)
  | (refine I.sl ?_; refine WX.slTo rfl rfl (by assumption) (by omega) rfl ?_)
  | (refine I.st ?_; first | (refine WX.store rfl rfl rfl rfl ?_; try simp only [List.set_cons_zero, List.set_cons_succ, Nat.reduceAdd]) | (refine WX.storeG rfl rfl rfl rfl rfl rfl ?_; try simp only [setAt, List.set_cons_zero, List.set_cons_succ, Nat.reduceAdd]; try rw [setAt_whole (by rfl)]))
  | (refine I.bd ?_; refine WX.build rfl rfl rfl ?_; try simp only [setAt, Value.cells, List.set_cons_zero, List.set_cons_succ]) | (refine I.bx ?_; refine WX.box rfl rfl rfl (fun _ => ?_)) | (refine I.al ?_; refine WX.alloc rfl (fun _ => ?_)) | (refine I.ex ?_; refine WX.extract rfl rfl rfl ?_))
      refine D.round (k + 1, (b, .cells (List.toArray [v]) 95 (0, 0)) :: hv) ⟨by simp only []; omega, ?_⟩ (by simp only []; omega) (by repeat (first | exact Fsub.nil | refine Fsub.cons rfl ?_)) (Hsub.of_picks inferInstance)
      simp only []
      rw [heardL_snoc hki, heard1, if_neg hc]
      exact ⟨_, _, rfl, hs'⟩
  · repeat' (first
  | refine W.seq ?_ | refine W.region ?_ | refine WX.nil ?_ | refine D.seq ?_ | refine W.block ?_ | refine D.blk ?_ | refine W.skip ?_ | refine W.exit ?_ | refine W.ret ?_
  | refine WM.nil ?_ | refine WM.un ?_ | refine WM.an ?_ | refine WM.backU ?_ | refine WM.back ?_
  | refine D.blkX ?_ | refine D.blkY rfl ?_ | refine D.roundX ?_ | refine D.roundR ?_ | refine D.blkR ?_
  | (refine I.gd ?_; first | refine WX.gy rfl rfl ?_ | refine WX.gn rfl rfl rfl rfl ?_ | refine WX.gnN rfl rfl rfl ?_ | refine WX.gu rfl rfl rfl ?_ | refine WX.guN rfl rfl ?_ | refine WX.gT rfl rfl (by first | assumption | omega) ?_ | refine WX.gF rfl rfl (by first | assumption | omega) ?_ | refine WX.gS rfl rfl (fun _ => ?_) (fun _ => ?_))
  | (refine I.cond ?_; first | refine W.condT rfl ?_ | refine W.condF rfl ?_ | refine W.condP rfl (by first | assumption | omega) ?_ | refine W.condN rfl (by first | assumption | omega) ?_)
  | (refine I.mv ?_; refine WX.move rfl rfl ?_) | (refine I.as ?_; refine WX.assign rfl rfl ?_)
  | (refine I.nc ?_; first | refine WX.nilCheck rfl rfl ?_ | refine WX.nilE rfl (by assumption) (by assumption) rfl ?_)
  | (refine I.fa ?_; first | refine WX.fieldAddr rfl rfl ?_ | refine WX.fieldE rfl (by assumption) (by assumption) rfl ?_)
  | (refine I.ld ?_; first | refine WX.load rfl rfl rfl ?_ | refine WX.loadE rfl (by assumption) (by assumption) rfl rfl rfl ?_ | refine WX.loadA rfl rfl rfl rfl ?_ | refine WX.loadEW rfl (by assumption) (by assumption) rfl rfl ?_)
  | (refine I.bin ?_; first | refine WX.lss rfl rfl rfl ?_ | refine WX.eql rfl rfl rfl ?_ | refine WX.neq rfl rfl rfl ?_ | refine WX.leq rfl rfl rfl ?_ | refine WX.gtr rfl rfl rfl ?_ | refine WX.geq rfl rfl rfl ?_ | refine WX.add rfl rfl rfl (by omega) ?_ | refine WX.sub' rfl rfl rfl (by omega) ?_ | refine WX.eqPN rfl rfl rfl ?_ | refine WX.nePN rfl rfl rfl ?_ | refine WX.eqNN rfl rfl rfl ?_ | refine WX.neNN rfl rfl rfl ?_)
  | (refine I.un ?_; first | refine WX.notD rfl rfl ?_ | refine WX.not rfl rfl ?_)
  | (refine I.pk ?_; first | refine WX.pickT rfl rfl rfl ?_ | refine WX.pickF rfl rfl rfl ?_)
  | (refine I.bi ?_; first | refine WX.lenSl rfl (by assumption) rfl ?_ | refine WX.len rfl rfl ?_ | refine WX.lenS rfl rfl ?_ | refine WX.min rfl rfl rfl ?_ | refine WX.max rfl rfl rfl ?_)
  | (refine I.ix ?_; first | refine WX.idx rfl rfl (by assumption) (by assumption) rfl ?_ | refine WX.idxI rfl rfl (by assumption) (by omega) (by assumption) rfl ?_ | refine WX.idxP rfl rfl (by omega) rfl ?_)
  | (refine I.sl ?_; refine WX.slTo rfl rfl (by assumption) (by omega) rfl ?_)
  | (refine I.st ?_; first | (refine WX.store rfl rfl rfl rfl ?_; try simp only [List.set_cons_zero, List.set_cons_succ, Nat.reduceAdd]) | (refine WX.storeG rfl rfl rfl rfl rfl rfl ?_; try simp only [setAt, List.set_cons_zero, List.set_cons_succ, Nat.reduceAdd]; try rw [setAt_whole (by rfl)]))
  | (refine I.bd ?_; refine WX.build rfl rfl rfl ?_; try simp only [setAt, Value.cells, List.set_cons_zero, List.set_cons_succ]) | (refine I.bx ?_; refine WX.box rfl rfl rfl (fun _ => ?_)) | (refine I.al ?_; refine WX.alloc rfl (fun _ => ?_)) | (refine I.ex ?_; refine WX.extract rfl rfl rfl ?_))
    obtain rfl : k = is.length := by simp only [] at hk; omega
    exact D.finE [_, _] _ rfl ⟨rfl, _, rfl, by simpa using hw'⟩

/-- The first k elements are turned by f. -/
def mapTo (f : Int → Int) (xs : List Int) (k : Nat) : List Int := (xs.take k).map f ++ xs.drop k
theorem mapTo_len (f : Int → Int) (xs : List Int) (k : Nat) : (mapTo f xs k).length = xs.length := by simp [mapTo]; omega
theorem mapTo_get {f : Int → Int} {xs : List Int} {k : Nat} {x : Int} (h : xs[k]? = some x) : (mapTo f xs k)[k]? = some x := by
  have hlt := (List.getElem?_eq_some_iff.1 h).1
  rw [mapTo, List.getElem?_append_right (by simp; omega)]
  simp [Nat.min_eq_left (Nat.le_of_lt hlt), h]
theorem mapTo_set {f : Int → Int} {xs : List Int} {k : Nat} {x : Int} (h : xs[k]? = some x) : (mapTo f xs k).set k (f x) = mapTo f xs (k + 1) := by
  have hlt := (List.getElem?_eq_some_iff.1 h).1
  have hx := (List.getElem?_eq_some_iff.1 h).2
  have hl : ((xs.take k).map f).length = k := by simp; omega
  rw [mapTo, mapTo, List.take_add_one, h, List.set_append_right _ _ (by omega), hl, Nat.sub_self, List.drop_eq_getElem_cons hlt, hx]
  simp only [List.set_cons_zero, List.map_append, Option.toList, List.map_cons, List.map_nil, List.append_assoc, List.cons_append, List.nil_append]
theorem mapTo_all (f : Int → Int) (xs : List Int) : mapTo f xs xs.length = xs.map f := by simp [mapTo]

def Wok (xs : List Int) : Prop := xs.length ≤ 64 ∧ ∀ s ∈ xs, 0 ≤ s ∧ s ≤ 1099511627776
theorem Wok.tick {xs : List Int} (h : Wok xs) : Wok (tickL xs) := ⟨by simpa [tickL] using h.1, fun s hs => by
  obtain ⟨x, hx, rfl⟩ := List.mem_map.1 hs
  have := h.2 x hx
  unfold tick1; split <;> omega⟩
theorem Wok.heard {xs : List Int} (h : Wok xs) (is : List Int) : Wok (heardL xs is) := by
  refine ⟨by rw [heardL_len]; exact h.1, ?_⟩
  unfold heardL
  have key : ∀ (is xs : List Int), (∀ s ∈ xs, 0 ≤ s ∧ s ≤ 1099511627776) → ∀ s ∈ is.foldl heard1 xs, 0 ≤ s ∧ s ≤ 1099511627776 := by
    intro is
    induction is with
    | nil => intro xs h; exact h
    | cons i r ih =>
      intro xs h
      refine ih _ fun s hs => ?_
      unfold heard1 at hs
      split at hs
      · rcases List.mem_or_eq_of_mem_set hs with h1 | h1
        · exact h s h1
        · omega
      · exact h s hs
  exact key is xs h.2

theorem tick_ct {b : Nat} {xs : List Int} {h : Hp} (hw : WAt 95 b xs h) (ok : Wok xs) :
    Ct Try.prog 20 [.pointer (some ⟨b, 0, none⟩)] [h] (fun v H' => v = .tuple #[] ∧ ∃ h', H' = [h'] ∧ WAt 95 b (tickL xs) h') := by
  obtain ⟨v, hv, rfl, hs⟩ := hw
  have hr := hs.rs
  have hl := ok.1
  refine Ct.mk' Try.func20 rfl rfl rfl (fun g R => ?_)
  try simp only [List.cons_append]
  simp only [List.nil_append]
  repeat' (first
  | refine W.seq ?_ | refine W.region ?_ | refine WX.nil ?_ | refine D.seq ?_ | refine W.block ?_ | refine D.blk ?_ | refine W.skip ?_ | refine W.exit ?_ | refine W.ret ?_
  | refine WM.nil ?_ | refine WM.un ?_ | refine WM.an ?_ | refine WM.backU ?_ | refine WM.back ?_
  | refine D.blkX ?_ | refine D.blkY rfl ?_ | refine D.roundX ?_ | refine D.roundR ?_ | refine D.blkR ?_
  | (refine I.gd ?_; first | refine WX.gy rfl rfl ?_ | refine WX.gn rfl rfl rfl rfl ?_ | refine WX.gnN rfl rfl rfl ?_ | refine WX.gu rfl rfl rfl ?_ | refine WX.guN rfl rfl ?_ | refine WX.gT rfl rfl (by first | assumption | omega) ?_ | refine WX.gF rfl rfl (by first | assumption | omega) ?_ | refine WX.gS rfl rfl (fun _ => ?_) (fun _ => ?_))
  | (refine I.cond ?_; first | refine W.condT rfl ?_ | refine W.condF rfl ?_ | refine W.condP rfl (by first | assumption | omega) ?_ | refine W.condN rfl (by first | assumption | omega) ?_)
  | (refine I.mv ?_; refine WX.move rfl rfl ?_) | (refine I.as ?_; refine WX.assign rfl rfl ?_)
  | (refine I.nc ?_; first | refine WX.nilCheck rfl rfl ?_ | refine WX.nilE rfl (by assumption) (by assumption) rfl ?_)
  | (refine I.fa ?_; first | refine WX.fieldAddr rfl rfl ?_ | refine WX.fieldE rfl (by assumption) (by assumption) rfl ?_)
  | (refine I.ld ?_; first | refine WX.load rfl rfl rfl ?_ | refine WX.loadE rfl (by assumption) (by assumption) rfl rfl rfl ?_ | refine WX.loadA rfl rfl rfl rfl ?_ | refine WX.loadEW rfl (by assumption) (by assumption) rfl rfl ?_)
  | (refine I.bin ?_; first | refine WX.lss rfl rfl rfl ?_ | refine WX.eql rfl rfl rfl ?_ | refine WX.neq rfl rfl rfl ?_ | refine WX.leq rfl rfl rfl ?_ | refine WX.gtr rfl rfl rfl ?_ | refine WX.geq rfl rfl rfl ?_ | refine WX.add rfl rfl rfl (by omega) ?_ | refine WX.sub' rfl rfl rfl (by omega) ?_ | refine WX.eqPN rfl rfl rfl ?_ | refine WX.nePN rfl rfl rfl ?_ | refine WX.eqNN rfl rfl rfl ?_ | refine WX.neNN rfl rfl rfl ?_)
  | (refine I.un ?_; first | refine WX.notD rfl rfl ?_ | refine WX.not rfl rfl ?_)
  | (refine I.pk ?_; first | refine WX.pickT rfl rfl rfl ?_ | refine WX.pickF rfl rfl rfl ?_)
  | (refine I.bi ?_; first | refine WX.lenSl rfl (by assumption) rfl ?_ | refine WX.len rfl rfl ?_ | refine WX.lenS rfl rfl ?_ | refine WX.min rfl rfl rfl ?_ | refine WX.max rfl rfl rfl ?_)
  | (refine I.ix ?_; first | refine WX.idx rfl rfl (by assumption) (by assumption) rfl ?_ | refine WX.idxI rfl rfl (by assumption) (by omega) (by assumption) rfl ?_ | refine WX.idxP rfl rfl (by omega) rfl ?_)
  | (refine I.sl ?_; refine WX.slTo rfl rfl (by assumption) (by omega) rfl ?_)
  | (refine I.st ?_; first | (refine WX.store rfl rfl rfl rfl ?_; try simp only [List.set_cons_zero, List.set_cons_succ, Nat.reduceAdd]) | (refine WX.storeG rfl rfl rfl rfl rfl rfl ?_; try simp only [setAt, List.set_cons_zero, List.set_cons_succ, Nat.reduceAdd]; try rw [setAt_whole (by rfl)]))
  | (refine I.bd ?_; refine WX.build rfl rfl rfl ?_; try simp only [setAt, Value.cells, List.set_cons_zero, List.set_cons_succ]) | (refine I.bx ?_; refine WX.box rfl rfl rfl (fun _ => ?_)) | (refine I.al ?_; refine WX.alloc rfl (fun _ => ?_)) | (refine I.ex ?_; refine WX.extract rfl rfl rfl ?_))
  refine W.loop (α := Nat × Hp) (fun x => x.1 ≤ xs.length ∧ IsSl 3 (mapTo tick1 xs x.1) v x.2)
    (fun x => [(0, .pointer (some ⟨b, 0, none⟩)), (7, .int .i64 xs.length), (8, .int .i64 (x.1 : Int))]) (fun x => [[(b, .cells (List.toArray [v]) 95 (0, 0))], x.2, R]) (fun x => xs.length - x.1) (0, hv) ⟨by omega, by simpa [mapTo] using hs⟩ (by repeat (first | exact Fsub.nil | refine Fsub.cons rfl ?_)) (Hsub.of_picks inferInstance) ?_
  rintro ⟨k, h'⟩ ⟨hk, hw'⟩
  clear hr
  simp only [] at hk hw' ⊢
  have hr' := hw'.rs
  by_cases hlt : k < xs.length
  · obtain ⟨x, hx⟩ : ∃ x, xs[k]? = some x := ⟨_, List.getElem?_eq_getElem hlt⟩
    have hx' := mapTo_get (f := tick1) hx
    have hb := ok.2 x (List.mem_of_getElem? hx)
    repeat' (first
  | refine W.seq ?_ | refine W.region ?_ | refine WX.nil ?_ | refine D.seq ?_ | refine W.block ?_ | refine D.blk ?_ | refine W.skip ?_ | refine W.exit ?_ | refine W.ret ?_
  | refine WM.nil ?_ | refine WM.un ?_ | refine WM.an ?_ | refine WM.backU ?_ | refine WM.back ?_
  | refine D.blkX ?_ | refine D.blkY rfl ?_ | refine D.roundX ?_ | refine D.roundR ?_ | refine D.blkR ?_
  | (refine I.gd ?_; first | refine WX.gy rfl rfl ?_ | refine WX.gn rfl rfl rfl rfl ?_ | refine WX.gnN rfl rfl rfl ?_ | refine WX.gu rfl rfl rfl ?_ | refine WX.guN rfl rfl ?_ | refine WX.gT rfl rfl (by first | assumption | omega) ?_ | refine WX.gF rfl rfl (by first | assumption | omega) ?_ | refine WX.gS rfl rfl (fun _ => ?_) (fun _ => ?_))
  | (refine I.cond ?_; first | refine W.condT rfl ?_ | refine W.condF rfl ?_ | refine W.condP rfl (by first | assumption | omega) ?_ | refine W.condN rfl (by first | assumption | omega) ?_)
  | (refine I.mv ?_; refine WX.move rfl rfl ?_) | (refine I.as ?_; refine WX.assign rfl rfl ?_)
  | (refine I.nc ?_; first | refine WX.nilCheck rfl rfl ?_ | refine WX.nilE rfl (by assumption) (by assumption) rfl ?_)
  | (refine I.fa ?_; first | refine WX.fieldAddr rfl rfl ?_ | refine WX.fieldE rfl (by assumption) (by assumption) rfl ?_)
  | (refine I.ld ?_; first | refine WX.load rfl rfl rfl ?_ | refine WX.loadE rfl (by assumption) (by assumption) rfl rfl rfl ?_ | refine WX.loadA rfl rfl rfl rfl ?_ | refine WX.loadEW rfl (by assumption) (by assumption) rfl rfl ?_)
  | (refine I.bin ?_; first | refine WX.lss rfl rfl rfl ?_ | refine WX.eql rfl rfl rfl ?_ | refine WX.neq rfl rfl rfl ?_ | refine WX.leq rfl rfl rfl ?_ | refine WX.gtr rfl rfl rfl ?_ | refine WX.geq rfl rfl rfl ?_ | refine WX.add rfl rfl rfl (by omega) ?_ | refine WX.sub' rfl rfl rfl (by omega) ?_ | refine WX.eqPN rfl rfl rfl ?_ | refine WX.nePN rfl rfl rfl ?_ | refine WX.eqNN rfl rfl rfl ?_ | refine WX.neNN rfl rfl rfl ?_)
  | (refine I.un ?_; first | refine WX.notD rfl rfl ?_ | refine WX.not rfl rfl ?_)
  | (refine I.pk ?_; first | refine WX.pickT rfl rfl rfl ?_ | refine WX.pickF rfl rfl rfl ?_)
  | (refine I.bi ?_; first | refine WX.lenSl rfl (by assumption) rfl ?_ | refine WX.len rfl rfl ?_ | refine WX.lenS rfl rfl ?_ | refine WX.min rfl rfl rfl ?_ | refine WX.max rfl rfl rfl ?_)
  | (refine I.ix ?_; first | refine WX.idx rfl rfl (by assumption) (by assumption) rfl ?_ | refine WX.idxI rfl rfl (by assumption) (by omega) (by assumption) rfl ?_ | refine WX.idxP rfl rfl (by omega) rfl ?_)
  | (refine I.sl ?_; refine WX.slTo rfl rfl (by assumption) (by omega) rfl ?_)
  | (refine I.st ?_; first | (refine WX.store rfl rfl rfl rfl ?_; try simp only [List.set_cons_zero, List.set_cons_succ, Nat.reduceAdd]) | (refine WX.storeG rfl rfl rfl rfl rfl rfl ?_; try simp only [setAt, List.set_cons_zero, List.set_cons_succ, Nat.reduceAdd]; try rw [setAt_whole (by rfl)]))
  | (refine I.bd ?_; refine WX.build rfl rfl rfl ?_; try simp only [setAt, Value.cells, List.set_cons_zero, List.set_cons_succ]) | (refine I.bx ?_; refine WX.box rfl rfl rfl (fun _ => ?_)) | (refine I.al ?_; refine WX.alloc rfl (fun _ => ?_)) | (refine I.ex ?_; refine WX.extract rfl rfl rfl ?_))
    refine W.mix (List.replicate 15 true) [[(b, .cells (List.toArray [v]) 95 (0, 0))], h'] Try.mix (by kernel_rfl) ?_
    repeat' (first
  | refine W.seq ?_ | refine W.region ?_ | refine WX.nil ?_ | refine D.seq ?_ | refine W.block ?_ | refine D.blk ?_ | refine W.skip ?_ | refine W.exit ?_ | refine W.ret ?_
  | refine WM.nil ?_ | refine WM.un ?_ | refine WM.an ?_ | refine WM.backU ?_ | refine WM.back ?_
  | refine D.blkX ?_ | refine D.blkY rfl ?_ | refine D.roundX ?_ | refine D.roundR ?_ | refine D.blkR ?_
  | (refine I.gd ?_; first | refine WX.gy rfl rfl ?_ | refine WX.gn rfl rfl rfl rfl ?_ | refine WX.gnN rfl rfl rfl ?_ | refine WX.gu rfl rfl rfl ?_ | refine WX.guN rfl rfl ?_ | refine WX.gT rfl rfl (by first | assumption | omega) ?_ | refine WX.gF rfl rfl (by first | assumption | omega) ?_ | refine WX.gS rfl rfl (fun _ => ?_) (fun _ => ?_))
  | (refine I.cond ?_; first | refine W.condT rfl ?_ | refine W.condF rfl ?_ | refine W.condP rfl (by first | assumption | omega) ?_ | refine W.condN rfl (by first | assumption | omega) ?_)
  | (refine I.mv ?_; refine WX.move rfl rfl ?_) | (refine I.as ?_; refine WX.assign rfl rfl ?_)
  | (refine I.nc ?_; first | refine WX.nilCheck rfl rfl ?_ | refine WX.nilE rfl (by assumption) (by assumption) rfl ?_)
  | (refine I.fa ?_; first | refine WX.fieldAddr rfl rfl ?_ | refine WX.fieldE rfl (by assumption) (by assumption) rfl ?_)
  | (refine I.ld ?_; first | refine WX.load rfl rfl rfl ?_ | refine WX.loadE rfl (by assumption) (by assumption) rfl rfl rfl ?_ | refine WX.loadA rfl rfl rfl rfl ?_ | refine WX.loadEW rfl (by assumption) (by assumption) rfl rfl ?_)
  | (refine I.bin ?_; first | refine WX.lss rfl rfl rfl ?_ | refine WX.eql rfl rfl rfl ?_ | refine WX.neq rfl rfl rfl ?_ | refine WX.leq rfl rfl rfl ?_ | refine WX.gtr rfl rfl rfl ?_ | refine WX.geq rfl rfl rfl ?_ | refine WX.add rfl rfl rfl (by omega) ?_ | refine WX.sub' rfl rfl rfl (by omega) ?_ | refine WX.eqPN rfl rfl rfl ?_ | refine WX.nePN rfl rfl rfl ?_ | refine WX.eqNN rfl rfl rfl ?_ | refine WX.neNN rfl rfl rfl ?_)
  | (refine I.un ?_; first | refine WX.notD rfl rfl ?_ | refine WX.not rfl rfl ?_)
  | (refine I.pk ?_; first | refine WX.pickT rfl rfl rfl ?_ | refine WX.pickF rfl rfl rfl ?_)
  | (refine I.bi ?_; first | refine WX.lenSl rfl (by assumption) rfl ?_ | refine WX.len rfl rfl ?_ | refine WX.lenS rfl rfl ?_ | refine WX.min rfl rfl rfl ?_ | refine WX.max rfl rfl rfl ?_)
  | (refine I.ix ?_; first | refine WX.idx rfl rfl (by assumption) (by assumption) rfl ?_ | refine WX.idxI rfl rfl (by assumption) (by omega) (by assumption) rfl ?_ | refine WX.idxP rfl rfl (by omega) rfl ?_)
  | (refine I.sl ?_; refine WX.slTo rfl rfl (by assumption) (by omega) rfl ?_)
  | (refine I.st ?_; first | (refine WX.store rfl rfl rfl rfl ?_; try simp only [List.set_cons_zero, List.set_cons_succ, Nat.reduceAdd]) | (refine WX.storeG rfl rfl rfl rfl rfl rfl ?_; try simp only [setAt, List.set_cons_zero, List.set_cons_succ, Nat.reduceAdd]; try rw [setAt_whole (by rfl)]))
  | (refine I.bd ?_; refine WX.build rfl rfl rfl ?_; try simp only [setAt, Value.cells, List.set_cons_zero, List.set_cons_succ]) | (refine I.bx ?_; refine WX.box rfl rfl rfl (fun _ => ?_)) | (refine I.al ?_; refine WX.alloc rfl (fun _ => ?_)) | (refine I.ex ?_; refine WX.extract rfl rfl rfl ?_))
    refine WX.storeE (y' := tick1 x) rfl rfl rfl hw' hx' rfl rfl rfl rfl rfl (fun h2 hs2 => ?_)
    rw [mapTo_set hx] at hs2
    repeat' (first
  | refine W.seq ?_ | refine W.region ?_ | refine WX.nil ?_ | refine D.seq ?_ | refine W.block ?_ | refine D.blk ?_ | refine W.skip ?_ | refine W.exit ?_ | refine W.ret ?_
  | refine WM.nil ?_ | refine WM.un ?_ | refine WM.an ?_ | refine WM.backU ?_ | refine WM.back ?_
  | refine D.blkX ?_ | refine D.blkY rfl ?_ | refine D.roundX ?_ | refine D.roundR ?_ | refine D.blkR ?_
  | (refine I.gd ?_; first | refine WX.gy rfl rfl ?_ | refine WX.gn rfl rfl rfl rfl ?_ | refine WX.gnN rfl rfl rfl ?_ | refine WX.gu rfl rfl rfl ?_ | refine WX.guN rfl rfl ?_ | refine WX.gT rfl rfl (by first | assumption | omega) ?_ | refine WX.gF rfl rfl (by first | assumption | omega) ?_ | refine WX.gS rfl rfl (fun _ => ?_) (fun _ => ?_))
  | (refine I.cond ?_; first | refine W.condT rfl ?_ | refine W.condF rfl ?_ | refine W.condP rfl (by first | assumption | omega) ?_ | refine W.condN rfl (by first | assumption | omega) ?_)
  | (refine I.mv ?_; refine WX.move rfl rfl ?_) | (refine I.as ?_; refine WX.assign rfl rfl ?_)
  | (refine I.nc ?_; first | refine WX.nilCheck rfl rfl ?_ | refine WX.nilE rfl (by assumption) (by assumption) rfl ?_)
  | (refine I.fa ?_; first | refine WX.fieldAddr rfl rfl ?_ | refine WX.fieldE rfl (by assumption) (by assumption) rfl ?_)
  | (refine I.ld ?_; first | refine WX.load rfl rfl rfl ?_ | refine WX.loadE rfl (by assumption) (by assumption) rfl rfl rfl ?_ | refine WX.loadA rfl rfl rfl rfl ?_ | refine WX.loadEW rfl (by assumption) (by assumption) rfl rfl ?_)
  | (refine I.bin ?_; first | refine WX.lss rfl rfl rfl ?_ | refine WX.eql rfl rfl rfl ?_ | refine WX.neq rfl rfl rfl ?_ | refine WX.leq rfl rfl rfl ?_ | refine WX.gtr rfl rfl rfl ?_ | refine WX.geq rfl rfl rfl ?_ | refine WX.add rfl rfl rfl (by omega) ?_ | refine WX.sub' rfl rfl rfl (by omega) ?_ | refine WX.eqPN rfl rfl rfl ?_ | refine WX.nePN rfl rfl rfl ?_ | refine WX.eqNN rfl rfl rfl ?_ | refine WX.neNN rfl rfl rfl ?_)
  | (refine I.un ?_; first | refine WX.notD rfl rfl ?_ | refine WX.not rfl rfl ?_)
  | (refine I.pk ?_; first | refine WX.pickT rfl rfl rfl ?_ | refine WX.pickF rfl rfl rfl ?_)
  | (refine I.bi ?_; first | refine WX.lenSl rfl (by assumption) rfl ?_ | refine WX.len rfl rfl ?_ | refine WX.lenS rfl rfl ?_ | refine WX.min rfl rfl rfl ?_ | refine WX.max rfl rfl rfl ?_)
  | (refine I.ix ?_; first | refine WX.idx rfl rfl (by assumption) (by assumption) rfl ?_ | refine WX.idxI rfl rfl (by assumption) (by omega) (by assumption) rfl ?_ | refine WX.idxP rfl rfl (by omega) rfl ?_)
  | (refine I.sl ?_; refine WX.slTo rfl rfl (by assumption) (by omega) rfl ?_)
  | (refine I.st ?_; first | (refine WX.store rfl rfl rfl rfl ?_; try simp only [List.set_cons_zero, List.set_cons_succ, Nat.reduceAdd]) | (refine WX.storeG rfl rfl rfl rfl rfl rfl ?_; try simp only [setAt, List.set_cons_zero, List.set_cons_succ, Nat.reduceAdd]; try rw [setAt_whole (by rfl)]))
  | (refine I.bd ?_; refine WX.build rfl rfl rfl ?_; try simp only [setAt, Value.cells, List.set_cons_zero, List.set_cons_succ]) | (refine I.bx ?_; refine WX.box rfl rfl rfl (fun _ => ?_)) | (refine I.al ?_; refine WX.alloc rfl (fun _ => ?_)) | (refine I.ex ?_; refine WX.extract rfl rfl rfl ?_))
    exact D.round (k + 1, h2) ⟨by simp only []; omega, hs2⟩ (by simp only []; omega) (by repeat (first | exact Fsub.nil | refine Fsub.cons rfl ?_)) (Hsub.of_picks inferInstance)
  · repeat' (first
  | refine W.seq ?_ | refine W.region ?_ | refine WX.nil ?_ | refine D.seq ?_ | refine W.block ?_ | refine D.blk ?_ | refine W.skip ?_ | refine W.exit ?_ | refine W.ret ?_
  | refine WM.nil ?_ | refine WM.un ?_ | refine WM.an ?_ | refine WM.backU ?_ | refine WM.back ?_
  | refine D.blkX ?_ | refine D.blkY rfl ?_ | refine D.roundX ?_ | refine D.roundR ?_ | refine D.blkR ?_
  | (refine I.gd ?_; first | refine WX.gy rfl rfl ?_ | refine WX.gn rfl rfl rfl rfl ?_ | refine WX.gnN rfl rfl rfl ?_ | refine WX.gu rfl rfl rfl ?_ | refine WX.guN rfl rfl ?_ | refine WX.gT rfl rfl (by first | assumption | omega) ?_ | refine WX.gF rfl rfl (by first | assumption | omega) ?_ | refine WX.gS rfl rfl (fun _ => ?_) (fun _ => ?_))
  | (refine I.cond ?_; first | refine W.condT rfl ?_ | refine W.condF rfl ?_ | refine W.condP rfl (by first | assumption | omega) ?_ | refine W.condN rfl (by first | assumption | omega) ?_)
  | (refine I.mv ?_; refine WX.move rfl rfl ?_) | (refine I.as ?_; refine WX.assign rfl rfl ?_)
  | (refine I.nc ?_; first | refine WX.nilCheck rfl rfl ?_ | refine WX.nilE rfl (by assumption) (by assumption) rfl ?_)
  | (refine I.fa ?_; first | refine WX.fieldAddr rfl rfl ?_ | refine WX.fieldE rfl (by assumption) (by assumption) rfl ?_)
  | (refine I.ld ?_; first | refine WX.load rfl rfl rfl ?_ | refine WX.loadE rfl (by assumption) (by assumption) rfl rfl rfl ?_ | refine WX.loadA rfl rfl rfl rfl ?_ | refine WX.loadEW rfl (by assumption) (by assumption) rfl rfl ?_)
  | (refine I.bin ?_; first | refine WX.lss rfl rfl rfl ?_ | refine WX.eql rfl rfl rfl ?_ | refine WX.neq rfl rfl rfl ?_ | refine WX.leq rfl rfl rfl ?_ | refine WX.gtr rfl rfl rfl ?_ | refine WX.geq rfl rfl rfl ?_ | refine WX.add rfl rfl rfl (by omega) ?_ | refine WX.sub' rfl rfl rfl (by omega) ?_ | refine WX.eqPN rfl rfl rfl ?_ | refine WX.nePN rfl rfl rfl ?_ | refine WX.eqNN rfl rfl rfl ?_ | refine WX.neNN rfl rfl rfl ?_)
  | (refine I.un ?_; first | refine WX.notD rfl rfl ?_ | refine WX.not rfl rfl ?_)
  | (refine I.pk ?_; first | refine WX.pickT rfl rfl rfl ?_ | refine WX.pickF rfl rfl rfl ?_)
  | (refine I.bi ?_; first | refine WX.lenSl rfl (by assumption) rfl ?_ | refine WX.len rfl rfl ?_ | refine WX.lenS rfl rfl ?_ | refine WX.min rfl rfl rfl ?_ | refine WX.max rfl rfl rfl ?_)
  | (refine I.ix ?_; first | refine WX.idx rfl rfl (by assumption) (by assumption) rfl ?_ | refine WX.idxI rfl rfl (by assumption) (by omega) (by assumption) rfl ?_ | refine WX.idxP rfl rfl (by omega) rfl ?_)
  | (refine I.sl ?_; refine WX.slTo rfl rfl (by assumption) (by omega) rfl ?_)
  | (refine I.st ?_; first | (refine WX.store rfl rfl rfl rfl ?_; try simp only [List.set_cons_zero, List.set_cons_succ, Nat.reduceAdd]) | (refine WX.storeG rfl rfl rfl rfl rfl rfl ?_; try simp only [setAt, List.set_cons_zero, List.set_cons_succ, Nat.reduceAdd]; try rw [setAt_whole (by rfl)]))
  | (refine I.bd ?_; refine WX.build rfl rfl rfl ?_; try simp only [setAt, Value.cells, List.set_cons_zero, List.set_cons_succ]) | (refine I.bx ?_; refine WX.box rfl rfl rfl (fun _ => ?_)) | (refine I.al ?_; refine WX.alloc rfl (fun _ => ?_)) | (refine I.ex ?_; refine WX.extract rfl rfl rfl ?_))
    obtain rfl : k = xs.length := by omega
    rw [mapTo_all] at hw'
    exact D.finE [(b, .cells (List.toArray [v]) 95 (0, 0)) :: h'] _ rfl ⟨rfl, _, rfl, v, h', rfl, hw'⟩

def silK (xs : List Int) (lim : Int) (k : Nat) : List Int := ((List.range k).filter fun i => decide (lim ≤ xs.getD i 0)).map Int.ofNat
def silL (xs : List Int) (lim : Int) : List Int := silK xs lim xs.length
theorem silK_len (xs : List Int) (lim : Int) (k : Nat) : (silK xs lim k).length ≤ k := by
  unfold silK; rw [List.length_map]; have := List.length_filter_le (fun i => decide (lim ≤ xs.getD i 0)) (List.range k); simpa using this
theorem silK_succ {xs : List Int} {lim : Int} {k : Nat} {x : Int} (h : xs[k]? = some x) : silK xs lim (k + 1) = if lim ≤ x then silK xs lim k ++ [(k : Int)] else silK xs lim k := by
  unfold silK
  rw [List.range_succ, List.filter_append]
  by_cases hx : lim ≤ x <;> simp [h, hx]

theorem silent_ct {b : Nat} {xs : List Int} {h : Hp} (hw : WAt 95 b xs h) (hl : xs.length ≤ 64) (lim : Int) :
    Ct Try.prog 21 [.pointer (some ⟨b, 0, none⟩), .int .i64 lim] [h] (fun v H' => ∃ h', H' = [h, h'] ∧ IsSl 3 (silL xs lim) v h') := by
  obtain ⟨v, hv, rfl, hs⟩ := hw
  have hr := hs.rs
  refine Ct.mk' Try.func21 rfl rfl rfl (fun g R => ?_)
  try simp only [List.cons_append]
  simp only [List.nil_append]
  repeat' (first
  | refine W.seq ?_ | refine W.region ?_ | refine WX.nil ?_ | refine D.seq ?_ | refine W.block ?_ | refine D.blk ?_ | refine W.skip ?_ | refine W.exit ?_ | refine W.ret ?_
  | refine WM.nil ?_ | refine WM.un ?_ | refine WM.an ?_ | refine WM.backU ?_ | refine WM.back ?_
  | refine D.blkX ?_ | refine D.blkY rfl ?_ | refine D.roundX ?_ | refine D.roundR ?_ | refine D.blkR ?_
  | (refine I.gd ?_; first | refine WX.gy rfl rfl ?_ | refine WX.gn rfl rfl rfl rfl ?_ | refine WX.gnN rfl rfl rfl ?_ | refine WX.gu rfl rfl rfl ?_ | refine WX.guN rfl rfl ?_ | refine WX.gT rfl rfl (by first | assumption | omega) ?_ | refine WX.gF rfl rfl (by first | assumption | omega) ?_ | refine WX.gS rfl rfl (fun _ => ?_) (fun _ => ?_))
  | (refine I.cond ?_; first | refine W.condT rfl ?_ | refine W.condF rfl ?_ | refine W.condP rfl (by first | assumption | omega) ?_ | refine W.condN rfl (by first | assumption | omega) ?_)
  | (refine I.mv ?_; refine WX.move rfl rfl ?_) | (refine I.as ?_; refine WX.assign rfl rfl ?_)
  | (refine I.nc ?_; first | refine WX.nilCheck rfl rfl ?_ | refine WX.nilE rfl (by assumption) (by assumption) rfl ?_)
  | (refine I.fa ?_; first | refine WX.fieldAddr rfl rfl ?_ | refine WX.fieldE rfl (by assumption) (by assumption) rfl ?_)
  | (refine I.ld ?_; first | refine WX.load rfl rfl rfl ?_ | refine WX.loadE rfl (by assumption) (by assumption) rfl rfl rfl ?_ | refine WX.loadA rfl rfl rfl rfl ?_ | refine WX.loadEW rfl (by assumption) (by assumption) rfl rfl ?_)
  | (refine I.bin ?_; first | refine WX.lss rfl rfl rfl ?_ | refine WX.eql rfl rfl rfl ?_ | refine WX.neq rfl rfl rfl ?_ | refine WX.leq rfl rfl rfl ?_ | refine WX.gtr rfl rfl rfl ?_ | refine WX.geq rfl rfl rfl ?_ | refine WX.add rfl rfl rfl (by omega) ?_ | refine WX.sub' rfl rfl rfl (by omega) ?_ | refine WX.eqPN rfl rfl rfl ?_ | refine WX.nePN rfl rfl rfl ?_ | refine WX.eqNN rfl rfl rfl ?_ | refine WX.neNN rfl rfl rfl ?_)
  | (refine I.un ?_; first | refine WX.notD rfl rfl ?_ | refine WX.not rfl rfl ?_)
  | (refine I.pk ?_; first | refine WX.pickT rfl rfl rfl ?_ | refine WX.pickF rfl rfl rfl ?_)
  | (refine I.bi ?_; first | refine WX.lenSl rfl (by assumption) rfl ?_ | refine WX.len rfl rfl ?_ | refine WX.lenS rfl rfl ?_ | refine WX.min rfl rfl rfl ?_ | refine WX.max rfl rfl rfl ?_)
  | (refine I.ix ?_; first | refine WX.idx rfl rfl (by assumption) (by assumption) rfl ?_ | refine WX.idxI rfl rfl (by assumption) (by omega) (by assumption) rfl ?_ | refine WX.idxP rfl rfl (by omega) rfl ?_)
  | (refine I.sl ?_; refine WX.slTo rfl rfl (by assumption) (by omega) rfl ?_)
  | (refine I.st ?_; first | (refine WX.store rfl rfl rfl rfl ?_; try simp only [List.set_cons_zero, List.set_cons_succ, Nat.reduceAdd]) | (refine WX.storeG rfl rfl rfl rfl rfl rfl ?_; try simp only [setAt, List.set_cons_zero, List.set_cons_succ, Nat.reduceAdd]; try rw [setAt_whole (by rfl)]))
  | (refine I.bd ?_; refine WX.build rfl rfl rfl ?_; try simp only [setAt, Value.cells, List.set_cons_zero, List.set_cons_succ]) | (refine I.bx ?_; refine WX.box rfl rfl rfl (fun _ => ?_)) | (refine I.al ?_; refine WX.alloc rfl (fun _ => ?_)) | (refine I.ex ?_; refine WX.extract rfl rfl rfl ?_))
  refine W.loop (α := Nat × Value × Hp) (fun x => x.1 ≤ xs.length ∧ IsSl 3 (silK xs lim x.1) x.2.1 x.2.2)
    (fun x => [(1, .int .i64 lim), (5, x.2.1), (11, v), (12, .int .i64 xs.length), (13, .int .i64 (x.1 : Int))]) (fun x => [x.2.2, [(b, .cells (List.toArray [v]) 95 (0, 0))], hv, R]) (fun x => xs.length - x.1)
    (0, .slice none 0 0, []) ⟨by omega, by simpa [silK] using IsSl.nil (α := Int) 3⟩ (by repeat (first | exact Fsub.nil | refine Fsub.cons rfl ?_)) (Hsub.of_picks inferInstance) ?_
  rintro ⟨k, u, h'⟩ ⟨hk, hu⟩
  simp only [] at hk hu ⊢
  have hkl := silK_len xs lim k
  by_cases hlt : k < xs.length
  · obtain ⟨x, hx⟩ : ∃ x, xs[k]? = some x := ⟨_, List.getElem?_eq_getElem hlt⟩
    by_cases hc : lim ≤ x
    · repeat' (first
  | refine W.seq ?_ | refine W.region ?_ | refine WX.nil ?_ | refine D.seq ?_ | refine W.block ?_ | refine D.blk ?_ | refine W.skip ?_ | refine W.exit ?_ | refine W.ret ?_
  | refine WM.nil ?_ | refine WM.un ?_ | refine WM.an ?_ | refine WM.backU ?_ | refine WM.back ?_
  | refine D.blkX ?_ | refine D.blkY rfl ?_ | refine D.roundX ?_ | refine D.roundR ?_ | refine D.blkR ?_
  | (refine I.gd ?_; first | refine WX.gy rfl rfl ?_ | refine WX.gn rfl rfl rfl rfl ?_ | refine WX.gnN rfl rfl rfl ?_ | refine WX.gu rfl rfl rfl ?_ | refine WX.guN rfl rfl ?_ | refine WX.gT rfl rfl (by first | assumption | omega) ?_ | refine WX.gF rfl rfl (by first | assumption | omega) ?_ | refine WX.gS rfl rfl (fun _ => ?_) (fun _ => ?_))
  | (refine I.cond ?_; first | refine W.condT rfl ?_ | refine W.condF rfl ?_ | refine W.condP rfl (by first | assumption | omega) ?_ | refine W.condN rfl (by first | assumption | omega) ?_)
  | (refine I.mv ?_; refine WX.move rfl rfl ?_) | (refine I.as ?_; refine WX.assign rfl rfl ?_)
  | (refine I.nc ?_; first | refine WX.nilCheck rfl rfl ?_ | refine WX.nilE rfl (by assumption) (by assumption) rfl ?_)
  | (refine I.fa ?_; first | refine WX.fieldAddr rfl rfl ?_ | refine WX.fieldE rfl (by assumption) (by assumption) rfl ?_)
  | (refine I.ld ?_; first | refine WX.load rfl rfl rfl ?_ | refine WX.loadE rfl (by assumption) (by assumption) rfl rfl rfl ?_ | refine WX.loadA rfl rfl rfl rfl ?_ | refine WX.loadEW rfl (by assumption) (by assumption) rfl rfl ?_)
  | (refine I.bin ?_; first | refine WX.lss rfl rfl rfl ?_ | refine WX.eql rfl rfl rfl ?_ | refine WX.neq rfl rfl rfl ?_ | refine WX.leq rfl rfl rfl ?_ | refine WX.gtr rfl rfl rfl ?_ | refine WX.geq rfl rfl rfl ?_ | refine WX.add rfl rfl rfl (by omega) ?_ | refine WX.sub' rfl rfl rfl (by omega) ?_ | refine WX.eqPN rfl rfl rfl ?_ | refine WX.nePN rfl rfl rfl ?_ | refine WX.eqNN rfl rfl rfl ?_ | refine WX.neNN rfl rfl rfl ?_)
  | (refine I.un ?_; first | refine WX.notD rfl rfl ?_ | refine WX.not rfl rfl ?_)
  | (refine I.pk ?_; first | refine WX.pickT rfl rfl rfl ?_ | refine WX.pickF rfl rfl rfl ?_)
  | (refine I.bi ?_; first | refine WX.lenSl rfl (by assumption) rfl ?_ | refine WX.len rfl rfl ?_ | refine WX.lenS rfl rfl ?_ | refine WX.min rfl rfl rfl ?_ | refine WX.max rfl rfl rfl ?_)
  | (refine I.ix ?_; first | refine WX.idx rfl rfl (by assumption) (by assumption) rfl ?_ | refine WX.idxI rfl rfl (by assumption) (by omega) (by assumption) rfl ?_ | refine WX.idxP rfl rfl (by omega) rfl ?_)
  | (refine I.sl ?_; refine WX.slTo rfl rfl (by assumption) (by omega) rfl ?_)
  | (refine I.st ?_; first | (refine WX.store rfl rfl rfl rfl ?_; try simp only [List.set_cons_zero, List.set_cons_succ, Nat.reduceAdd]) | (refine WX.storeG rfl rfl rfl rfl rfl rfl ?_; try simp only [setAt, List.set_cons_zero, List.set_cons_succ, Nat.reduceAdd]; try rw [setAt_whole (by rfl)]))
  | (refine I.bd ?_; refine WX.build rfl rfl rfl ?_; try simp only [setAt, Value.cells, List.set_cons_zero, List.set_cons_succ]) | (refine I.bx ?_; refine WX.box rfl rfl rfl (fun _ => ?_)) | (refine I.al ?_; refine WX.alloc rfl (fun _ => ?_)) | (refine I.ex ?_; refine WX.extract rfl rfl rfl ?_))
      refine WX.lit (ys := [(k : Int)]) rfl rfl rfl rfl rfl rfl (by decide) rfl (fun v1 h1 hs1 => ?_)
      refine WX.app rfl rfl hu hs1.rs rfl rfl (by decide) (by simp only [List.length_cons, List.length_nil]; omega) rfl (fun v2 h2 hs2 => ?_)
      repeat' (first
  | refine W.seq ?_ | refine W.region ?_ | refine WX.nil ?_ | refine D.seq ?_ | refine W.block ?_ | refine D.blk ?_ | refine W.skip ?_ | refine W.exit ?_ | refine W.ret ?_
  | refine WM.nil ?_ | refine WM.un ?_ | refine WM.an ?_ | refine WM.backU ?_ | refine WM.back ?_
  | refine D.blkX ?_ | refine D.blkY rfl ?_ | refine D.roundX ?_ | refine D.roundR ?_ | refine D.blkR ?_
  | (refine I.gd ?_; first | refine WX.gy rfl rfl ?_ | refine WX.gn rfl rfl rfl rfl ?_ | refine WX.gnN rfl rfl rfl ?_ | refine WX.gu rfl rfl rfl ?_ | refine WX.guN rfl rfl ?_ | refine WX.gT rfl rfl (by first | assumption | omega) ?_ | refine WX.gF rfl rfl (by first | assumption | omega) ?_ | refine WX.gS rfl rfl (fun _ => ?_) (fun _ => ?_))
  | (refine I.cond ?_; first | refine W.condT rfl ?_ | refine W.condF rfl ?_ | refine W.condP rfl (by first | assumption | omega) ?_ | refine W.condN rfl (by first | assumption | omega) ?_)
  | (refine I.mv ?_; refine WX.move rfl rfl ?_) | (refine I.as ?_; refine WX.assign rfl rfl ?_)
  | (refine I.nc ?_; first | refine WX.nilCheck rfl rfl ?_ | refine WX.nilE rfl (by assumption) (by assumption) rfl ?_)
  | (refine I.fa ?_; first | refine WX.fieldAddr rfl rfl ?_ | refine WX.fieldE rfl (by assumption) (by assumption) rfl ?_)
  | (refine I.ld ?_; first | refine WX.load rfl rfl rfl ?_ | refine WX.loadE rfl (by assumption) (by assumption) rfl rfl rfl ?_ | refine WX.loadA rfl rfl rfl rfl ?_ | refine WX.loadEW rfl (by assumption) (by assumption) rfl rfl ?_)
  | (refine I.bin ?_; first | refine WX.lss rfl rfl rfl ?_ | refine WX.eql rfl rfl rfl ?_ | refine WX.neq rfl rfl rfl ?_ | refine WX.leq rfl rfl rfl ?_ | refine WX.gtr rfl rfl rfl ?_ | refine WX.geq rfl rfl rfl ?_ | refine WX.add rfl rfl rfl (by omega) ?_ | refine WX.sub' rfl rfl rfl (by omega) ?_ | refine WX.eqPN rfl rfl rfl ?_ | refine WX.nePN rfl rfl rfl ?_ | refine WX.eqNN rfl rfl rfl ?_ | refine WX.neNN rfl rfl rfl ?_)
  | (refine I.un ?_; first | refine WX.notD rfl rfl ?_ | refine WX.not rfl rfl ?_)
  | (refine I.pk ?_; first | refine WX.pickT rfl rfl rfl ?_ | refine WX.pickF rfl rfl rfl ?_)
  | (refine I.bi ?_; first | refine WX.lenSl rfl (by assumption) rfl ?_ | refine WX.len rfl rfl ?_ | refine WX.lenS rfl rfl ?_ | refine WX.min rfl rfl rfl ?_ | refine WX.max rfl rfl rfl ?_)
  | (refine I.ix ?_; first | refine WX.idx rfl rfl (by assumption) (by assumption) rfl ?_ | refine WX.idxI rfl rfl (by assumption) (by omega) (by assumption) rfl ?_ | refine WX.idxP rfl rfl (by omega) rfl ?_)
  | (refine I.sl ?_; refine WX.slTo rfl rfl (by assumption) (by omega) rfl ?_)
  | (refine I.st ?_; first | (refine WX.store rfl rfl rfl rfl ?_; try simp only [List.set_cons_zero, List.set_cons_succ, Nat.reduceAdd]) | (refine WX.storeG rfl rfl rfl rfl rfl rfl ?_; try simp only [setAt, List.set_cons_zero, List.set_cons_succ, Nat.reduceAdd]; try rw [setAt_whole (by rfl)]))
  | (refine I.bd ?_; refine WX.build rfl rfl rfl ?_; try simp only [setAt, Value.cells, List.set_cons_zero, List.set_cons_succ]) | (refine I.bx ?_; refine WX.box rfl rfl rfl (fun _ => ?_)) | (refine I.al ?_; refine WX.alloc rfl (fun _ => ?_)) | (refine I.ex ?_; refine WX.extract rfl rfl rfl ?_))
      exact D.round (k + 1, v2, h2) ⟨by simp only []; omega, by simp only []; rw [silK_succ hx, if_pos hc]; exact hs2⟩ (by simp only []; omega) (by repeat (first | exact Fsub.nil | refine Fsub.cons rfl ?_)) (Hsub.of_picks inferInstance)
    · repeat' (first
  | refine W.seq ?_ | refine W.region ?_ | refine WX.nil ?_ | refine D.seq ?_ | refine W.block ?_ | refine D.blk ?_ | refine W.skip ?_ | refine W.exit ?_ | refine W.ret ?_
  | refine WM.nil ?_ | refine WM.un ?_ | refine WM.an ?_ | refine WM.backU ?_ | refine WM.back ?_
  | refine D.blkX ?_ | refine D.blkY rfl ?_ | refine D.roundX ?_ | refine D.roundR ?_ | refine D.blkR ?_
  | (refine I.gd ?_; first | refine WX.gy rfl rfl ?_ | refine WX.gn rfl rfl rfl rfl ?_ | refine WX.gnN rfl rfl rfl ?_ | refine WX.gu rfl rfl rfl ?_ | refine WX.guN rfl rfl ?_ | refine WX.gT rfl rfl (by first | assumption | omega) ?_ | refine WX.gF rfl rfl (by first | assumption | omega) ?_ | refine WX.gS rfl rfl (fun _ => ?_) (fun _ => ?_))
  | (refine I.cond ?_; first | refine W.condT rfl ?_ | refine W.condF rfl ?_ | refine W.condP rfl (by first | assumption | omega) ?_ | refine W.condN rfl (by first | assumption | omega) ?_)
  | (refine I.mv ?_; refine WX.move rfl rfl ?_) | (refine I.as ?_; refine WX.assign rfl rfl ?_)
  | (refine I.nc ?_; first | refine WX.nilCheck rfl rfl ?_ | refine WX.nilE rfl (by assumption) (by assumption) rfl ?_)
  | (refine I.fa ?_; first | refine WX.fieldAddr rfl rfl ?_ | refine WX.fieldE rfl (by assumption) (by assumption) rfl ?_)
  | (refine I.ld ?_; first | refine WX.load rfl rfl rfl ?_ | refine WX.loadE rfl (by assumption) (by assumption) rfl rfl rfl ?_ | refine WX.loadA rfl rfl rfl rfl ?_ | refine WX.loadEW rfl (by assumption) (by assumption) rfl rfl ?_)
  | (refine I.bin ?_; first | refine WX.lss rfl rfl rfl ?_ | refine WX.eql rfl rfl rfl ?_ | refine WX.neq rfl rfl rfl ?_ | refine WX.leq rfl rfl rfl ?_ | refine WX.gtr rfl rfl rfl ?_ | refine WX.geq rfl rfl rfl ?_ | refine WX.add rfl rfl rfl (by omega) ?_ | refine WX.sub' rfl rfl rfl (by omega) ?_ | refine WX.eqPN rfl rfl rfl ?_ | refine WX.nePN rfl rfl rfl ?_ | refine WX.eqNN rfl rfl rfl ?_ | refine WX.neNN rfl rfl rfl ?_)
  | (refine I.un ?_; first | refine WX.notD rfl rfl ?_ | refine WX.not rfl rfl ?_)
  | (refine I.pk ?_; first | refine WX.pickT rfl rfl rfl ?_ | refine WX.pickF rfl rfl rfl ?_)
  | (refine I.bi ?_; first | refine WX.lenSl rfl (by assumption) rfl ?_ | refine WX.len rfl rfl ?_ | refine WX.lenS rfl rfl ?_ | refine WX.min rfl rfl rfl ?_ | refine WX.max rfl rfl rfl ?_)
  | (refine I.ix ?_; first | refine WX.idx rfl rfl (by assumption) (by assumption) rfl ?_ | refine WX.idxI rfl rfl (by assumption) (by omega) (by assumption) rfl ?_ | refine WX.idxP rfl rfl (by omega) rfl ?_)
  | (refine I.sl ?_; refine WX.slTo rfl rfl (by assumption) (by omega) rfl ?_)
  | (refine I.st ?_; first | (refine WX.store rfl rfl rfl rfl ?_; try simp only [List.set_cons_zero, List.set_cons_succ, Nat.reduceAdd]) | (refine WX.storeG rfl rfl rfl rfl rfl rfl ?_; try simp only [setAt, List.set_cons_zero, List.set_cons_succ, Nat.reduceAdd]; try rw [setAt_whole (by rfl)]))
  | (refine I.bd ?_; refine WX.build rfl rfl rfl ?_; try simp only [setAt, Value.cells, List.set_cons_zero, List.set_cons_succ]) | (refine I.bx ?_; refine WX.box rfl rfl rfl (fun _ => ?_)) | (refine I.al ?_; refine WX.alloc rfl (fun _ => ?_)) | (refine I.ex ?_; refine WX.extract rfl rfl rfl ?_))
      exact D.round (k + 1, u, h') ⟨by simp only []; omega, by simp only []; rw [silK_succ hx, if_neg hc]; exact hu⟩ (by simp only []; omega) (by repeat (first | exact Fsub.nil | refine Fsub.cons rfl ?_)) (Hsub.of_picks inferInstance)
  · repeat' (first
  | refine W.seq ?_ | refine W.region ?_ | refine WX.nil ?_ | refine D.seq ?_ | refine W.block ?_ | refine D.blk ?_ | refine W.skip ?_ | refine W.exit ?_ | refine W.ret ?_
  | refine WM.nil ?_ | refine WM.un ?_ | refine WM.an ?_ | refine WM.backU ?_ | refine WM.back ?_
  | refine D.blkX ?_ | refine D.blkY rfl ?_ | refine D.roundX ?_ | refine D.roundR ?_ | refine D.blkR ?_
  | (refine I.gd ?_; first | refine WX.gy rfl rfl ?_ | refine WX.gn rfl rfl rfl rfl ?_ | refine WX.gnN rfl rfl rfl ?_ | refine WX.gu rfl rfl rfl ?_ | refine WX.guN rfl rfl ?_ | refine WX.gT rfl rfl (by first | assumption | omega) ?_ | refine WX.gF rfl rfl (by first | assumption | omega) ?_ | refine WX.gS rfl rfl (fun _ => ?_) (fun _ => ?_))
  | (refine I.cond ?_; first | refine W.condT rfl ?_ | refine W.condF rfl ?_ | refine W.condP rfl (by first | assumption | omega) ?_ | refine W.condN rfl (by first | assumption | omega) ?_)
  | (refine I.mv ?_; refine WX.move rfl rfl ?_) | (refine I.as ?_; refine WX.assign rfl rfl ?_)
  | (refine I.nc ?_; first | refine WX.nilCheck rfl rfl ?_ | refine WX.nilE rfl (by assumption) (by assumption) rfl ?_)
  | (refine I.fa ?_; first | refine WX.fieldAddr rfl rfl ?_ | refine WX.fieldE rfl (by assumption) (by assumption) rfl ?_)
  | (refine I.ld ?_; first | refine WX.load rfl rfl rfl ?_ | refine WX.loadE rfl (by assumption) (by assumption) rfl rfl rfl ?_ | refine WX.loadA rfl rfl rfl rfl ?_ | refine WX.loadEW rfl (by assumption) (by assumption) rfl rfl ?_)
  | (refine I.bin ?_; first | refine WX.lss rfl rfl rfl ?_ | refine WX.eql rfl rfl rfl ?_ | refine WX.neq rfl rfl rfl ?_ | refine WX.leq rfl rfl rfl ?_ | refine WX.gtr rfl rfl rfl ?_ | refine WX.geq rfl rfl rfl ?_ | refine WX.add rfl rfl rfl (by omega) ?_ | refine WX.sub' rfl rfl rfl (by omega) ?_ | refine WX.eqPN rfl rfl rfl ?_ | refine WX.nePN rfl rfl rfl ?_ | refine WX.eqNN rfl rfl rfl ?_ | refine WX.neNN rfl rfl rfl ?_)
  | (refine I.un ?_; first | refine WX.notD rfl rfl ?_ | refine WX.not rfl rfl ?_)
  | (refine I.pk ?_; first | refine WX.pickT rfl rfl rfl ?_ | refine WX.pickF rfl rfl rfl ?_)
  | (refine I.bi ?_; first | refine WX.lenSl rfl (by assumption) rfl ?_ | refine WX.len rfl rfl ?_ | refine WX.lenS rfl rfl ?_ | refine WX.min rfl rfl rfl ?_ | refine WX.max rfl rfl rfl ?_)
  | (refine I.ix ?_; first | refine WX.idx rfl rfl (by assumption) (by assumption) rfl ?_ | refine WX.idxI rfl rfl (by assumption) (by omega) (by assumption) rfl ?_ | refine WX.idxP rfl rfl (by omega) rfl ?_)
  | (refine I.sl ?_; refine WX.slTo rfl rfl (by assumption) (by omega) rfl ?_)
  | (refine I.st ?_; first | (refine WX.store rfl rfl rfl rfl ?_; try simp only [List.set_cons_zero, List.set_cons_succ, Nat.reduceAdd]) | (refine WX.storeG rfl rfl rfl rfl rfl rfl ?_; try simp only [setAt, List.set_cons_zero, List.set_cons_succ, Nat.reduceAdd]; try rw [setAt_whole (by rfl)]))
  | (refine I.bd ?_; refine WX.build rfl rfl rfl ?_; try simp only [setAt, Value.cells, List.set_cons_zero, List.set_cons_succ]) | (refine I.bx ?_; refine WX.box rfl rfl rfl (fun _ => ?_)) | (refine I.al ?_; refine WX.alloc rfl (fun _ => ?_)) | (refine I.ex ?_; refine WX.extract rfl rfl rfl ?_))
    obtain rfl : k = xs.length := by omega
    exact D.fin1 [_, h'] _ rfl rfl ⟨h', rfl, hu⟩

def newN (n : Int) : Nat := (if 0 < (if 64 < n then 64 else n) then (if 64 < n then 64 else n) else 0).toNat
theorem newN_le (n : Int) : newN n ≤ 64 := by unfold newN; split <;> (try split) <;> omega
theorem new_ct (n : Int) :
    Ct Try.prog 25 [.int .i64 n] [] (fun v H' => ∃ b h', v = .pointer (some ⟨b, 0, none⟩) ∧ H' = [h'] ∧ WAt 95 b (List.replicate (newN n) 0) h') := by
  refine Ct.mk' Try.func25 rfl rfl rfl (fun g R => ?_)
  try simp only [List.cons_append]
  simp only [List.nil_append]
  repeat' (first
  | refine W.seq ?_ | refine W.region ?_ | refine WX.nil ?_ | refine D.seq ?_ | refine W.block ?_ | refine D.blk ?_ | refine W.skip ?_ | refine W.exit ?_ | refine W.ret ?_
  | refine WM.nil ?_ | refine WM.un ?_ | refine WM.an ?_ | refine WM.backU ?_ | refine WM.back ?_
  | refine D.blkX ?_ | refine D.blkY rfl ?_ | refine D.roundX ?_ | refine D.roundR ?_ | refine D.blkR ?_
  | (refine I.gd ?_; first | refine WX.gy rfl rfl ?_ | refine WX.gn rfl rfl rfl rfl ?_ | refine WX.gnN rfl rfl rfl ?_ | refine WX.gu rfl rfl rfl ?_ | refine WX.guN rfl rfl ?_ | refine WX.gT rfl rfl (by first | assumption | omega) ?_ | refine WX.gF rfl rfl (by first | assumption | omega) ?_ | refine WX.gS rfl rfl (fun _ => ?_) (fun _ => ?_))
  | (refine I.cond ?_; first | refine W.condT rfl ?_ | refine W.condF rfl ?_ | refine W.condP rfl (by first | assumption | omega) ?_ | refine W.condN rfl (by first | assumption | omega) ?_)
  | (refine I.mv ?_; refine WX.move rfl rfl ?_) | (refine I.as ?_; refine WX.assign rfl rfl ?_)
  | (refine I.nc ?_; first | refine WX.nilCheck rfl rfl ?_ | refine WX.nilE rfl (by assumption) (by assumption) rfl ?_)
  | (refine I.fa ?_; first | refine WX.fieldAddr rfl rfl ?_ | refine WX.fieldE rfl (by assumption) (by assumption) rfl ?_)
  | (refine I.ld ?_; first | refine WX.load rfl rfl rfl ?_ | refine WX.loadE rfl (by assumption) (by assumption) rfl rfl rfl ?_ | refine WX.loadA rfl rfl rfl rfl ?_ | refine WX.loadEW rfl (by assumption) (by assumption) rfl rfl ?_)
  | (refine I.bin ?_; first | refine WX.lss rfl rfl rfl ?_ | refine WX.eql rfl rfl rfl ?_ | refine WX.neq rfl rfl rfl ?_ | refine WX.leq rfl rfl rfl ?_ | refine WX.gtr rfl rfl rfl ?_ | refine WX.geq rfl rfl rfl ?_ | refine WX.add rfl rfl rfl (by omega) ?_ | refine WX.sub' rfl rfl rfl (by omega) ?_ | refine WX.eqPN rfl rfl rfl ?_ | refine WX.nePN rfl rfl rfl ?_ | refine WX.eqNN rfl rfl rfl ?_ | refine WX.neNN rfl rfl rfl ?_)
  | (refine I.un ?_; first | refine WX.notD rfl rfl ?_ | refine WX.not rfl rfl ?_)
  | (refine I.pk ?_; first | refine WX.pickT rfl rfl rfl ?_ | refine WX.pickF rfl rfl rfl ?_)
  | (refine I.bi ?_; first | refine WX.lenSl rfl (by assumption) rfl ?_ | refine WX.len rfl rfl ?_ | refine WX.lenS rfl rfl ?_ | refine WX.min rfl rfl rfl ?_ | refine WX.max rfl rfl rfl ?_)
  | (refine I.ix ?_; first | refine WX.idx rfl rfl (by assumption) (by assumption) rfl ?_ | refine WX.idxI rfl rfl (by assumption) (by omega) (by assumption) rfl ?_ | refine WX.idxP rfl rfl (by omega) rfl ?_)
  | (refine I.sl ?_; refine WX.slTo rfl rfl (by assumption) (by omega) rfl ?_)
  | (refine I.st ?_; first | (refine WX.store rfl rfl rfl rfl ?_; try simp only [List.set_cons_zero, List.set_cons_succ, Nat.reduceAdd]) | (refine WX.storeG rfl rfl rfl rfl rfl rfl ?_; try simp only [setAt, List.set_cons_zero, List.set_cons_succ, Nat.reduceAdd]; try rw [setAt_whole (by rfl)]))
  | (refine I.bd ?_; refine WX.build rfl rfl rfl ?_; try simp only [setAt, Value.cells, List.set_cons_zero, List.set_cons_succ]) | (refine I.bx ?_; refine WX.box rfl rfl rfl (fun _ => ?_)) | (refine I.al ?_; refine WX.alloc rfl (fun _ => ?_)) | (refine I.ex ?_; refine WX.extract rfl rfl rfl ?_))
  have hle := newN_le n
  refine WX.as 5 (.int .i64 (newN n : Int)) rfl (by congr 1; unfold newN; split <;> omega) ?_
  refine WX.make (z := (0 : Int)) rfl rfl rfl rfl (Nat.le_refl _) (by omega) (by omega) rfl (fun v h1 hs1 => ?_)
  obtain ⟨p, c, hv⟩ := hs1.rs.len
  subst hv
  repeat' (first
  | refine W.seq ?_ | refine W.region ?_ | refine WX.nil ?_ | refine D.seq ?_ | refine W.block ?_ | refine D.blk ?_ | refine W.skip ?_ | refine W.exit ?_ | refine W.ret ?_
  | refine WM.nil ?_ | refine WM.un ?_ | refine WM.an ?_ | refine WM.backU ?_ | refine WM.back ?_
  | refine D.blkX ?_ | refine D.blkY rfl ?_ | refine D.roundX ?_ | refine D.roundR ?_ | refine D.blkR ?_
  | (refine I.gd ?_; first | refine WX.gy rfl rfl ?_ | refine WX.gn rfl rfl rfl rfl ?_ | refine WX.gnN rfl rfl rfl ?_ | refine WX.gu rfl rfl rfl ?_ | refine WX.guN rfl rfl ?_ | refine WX.gT rfl rfl (by first | assumption | omega) ?_ | refine WX.gF rfl rfl (by first | assumption | omega) ?_ | refine WX.gS rfl rfl (fun _ => ?_) (fun _ => ?_))
  | (refine I.cond ?_; first | refine W.condT rfl ?_ | refine W.condF rfl ?_ | refine W.condP rfl (by first | assumption | omega) ?_ | refine W.condN rfl (by first | assumption | omega) ?_)
  | (refine I.mv ?_; refine WX.move rfl rfl ?_) | (refine I.as ?_; refine WX.assign rfl rfl ?_)
  | (refine I.nc ?_; first | refine WX.nilCheck rfl rfl ?_ | refine WX.nilE rfl (by assumption) (by assumption) rfl ?_)
  | (refine I.fa ?_; first | refine WX.fieldAddr rfl rfl ?_ | refine WX.fieldE rfl (by assumption) (by assumption) rfl ?_)
  | (refine I.ld ?_; first | refine WX.load rfl rfl rfl ?_ | refine WX.loadE rfl (by assumption) (by assumption) rfl rfl rfl ?_ | refine WX.loadA rfl rfl rfl rfl ?_ | refine WX.loadEW rfl (by assumption) (by assumption) rfl rfl ?_)
  | (refine I.bin ?_; first | refine WX.lss rfl rfl rfl ?_ | refine WX.eql rfl rfl rfl ?_ | refine WX.neq rfl rfl rfl ?_ | refine WX.leq rfl rfl rfl ?_ | refine WX.gtr rfl rfl rfl ?_ | refine WX.geq rfl rfl rfl ?_ | refine WX.add rfl rfl rfl (by omega) ?_ | refine WX.sub' rfl rfl rfl (by omega) ?_ | refine WX.eqPN rfl rfl rfl ?_ | refine WX.nePN rfl rfl rfl ?_ | refine WX.eqNN rfl rfl rfl ?_ | refine WX.neNN rfl rfl rfl ?_)
  | (refine I.un ?_; first | refine WX.notD rfl rfl ?_ | refine WX.not rfl rfl ?_)
  | (refine I.pk ?_; first | refine WX.pickT rfl rfl rfl ?_ | refine WX.pickF rfl rfl rfl ?_)
  | (refine I.bi ?_; first | refine WX.lenSl rfl (by assumption) rfl ?_ | refine WX.len rfl rfl ?_ | refine WX.lenS rfl rfl ?_ | refine WX.min rfl rfl rfl ?_ | refine WX.max rfl rfl rfl ?_)
  | (refine I.ix ?_; first | refine WX.idx rfl rfl (by assumption) (by assumption) rfl ?_ | refine WX.idxI rfl rfl (by assumption) (by omega) (by assumption) rfl ?_ | refine WX.idxP rfl rfl (by omega) rfl ?_)
  | (refine I.sl ?_; refine WX.slTo rfl rfl (by assumption) (by omega) rfl ?_)
  | (refine I.st ?_; first | (refine WX.store rfl rfl rfl rfl ?_; try simp only [List.set_cons_zero, List.set_cons_succ, Nat.reduceAdd]) | (refine WX.storeG rfl rfl rfl rfl rfl rfl ?_; try simp only [setAt, List.set_cons_zero, List.set_cons_succ, Nat.reduceAdd]; try rw [setAt_whole (by rfl)]))
  | (refine I.bd ?_; refine WX.build rfl rfl rfl ?_; try simp only [setAt, Value.cells, List.set_cons_zero, List.set_cons_succ]) | (refine I.bx ?_; refine WX.box rfl rfl rfl (fun _ => ?_)) | (refine I.al ?_; refine WX.alloc rfl (fun _ => ?_)) | (refine I.ex ?_; refine WX.extract rfl rfl rfl ?_))
  rename_i b
  exact D.fin1 [(b, .cells (List.toArray [.slice p (List.replicate (newN n) (0 : Int)).length c]) 95 (0, 0)) :: h1] _ rfl rfl ⟨b, _, rfl, rfl, _, h1, rfl, hs1⟩
end Go.Proofs.Ytfcefidmdijjkaa

/-
  Rules with the cells named: big structs. Watches of three ranges in one.
-/
set_option linter.unusedVariables false
set_option linter.unusedSimpArgs false
namespace Go.Sl
open Go
section
variable {g : World} {P : Program} {ops : Array Oper} {Q : Exit → Act → World → Prop} {q : Bool} {n d ty : Nat} {pos : String} {af : Array Edge} {rest : List Oper} {L : Fm} {H : HH} {v : Value}
variable {x y : Operand} {t b i T m : Nat} {ag : Bool} {cs cs' vs : List Value} {fr : Nat × Nat} {K : Obj → HH}
theorem bdN (cs : List Value) {parts : List (Nat × Operand)} {zs : List Value} {pl : List (Nat × Nat)} [hz : TZ P t zs] [hp : TP P t pl] (k : WX q g P ops Q n rest ((d, .agg cs.toArray) :: L) H) (hx : evs L (parts.map (·.2)) = some vs := by exact rfl)
    (hf' : fillL pl zs ((parts.map (·.1)).zip vs) = some cs := by kernel_rfl) (hd : Nat.blt d n = true := by exact rfl) :
    WX q g P ops Q n (⟨some d, .build t parts.toArray, ty, pos, af, none⟩ :: rest) L H := WX.build hx hf' hd k
theorem lAN (cs vs : List Value) [ht : TL P t m true] (hx : ev L x = some (.pointer (some ⟨b, i, none⟩))) [hf : Foc b (.cells (List.toArray cs) T fr) H K] (k : WX q g P ops Q n rest ((d, .agg vs.toArray) :: L) H)
    (hc : (cs.drop i).take m = vs := by kernel_rfl) (hl : vs.length = m := by kernel_rfl) (hd : Nat.blt d n = true := by exact rfl) :
    WX q g P ops Q n (⟨some d, .load t x, ty, pos, af, none⟩ :: rest) L H := WX.loadA hx hc hl hd k
theorem lN (cs : List Value) (v : Value) [ht : TL P t 1 false] (hx : ev L x = some (.pointer (some ⟨b, i, none⟩))) [hf : Foc b (.cells (List.toArray cs) T fr) H K] (k : WX q g P ops Q n rest ((d, v) :: L) H)
    (hc : cs[i]? = some v := by kernel_rfl) (hd : Nat.blt d n = true := by exact rfl) :
    WX q g P ops Q n (⟨some d, .load t x, ty, pos, af, none⟩ :: rest) L H := WX.load hx hc hd k
theorem sGN (cs vs cs' : List Value) [ht : TL P t m ag] (hx : ev L x = some (.pointer (some ⟨b, i, none⟩))) (hy : ev L y = some v) [hf : Foc b (.cells (List.toArray cs) T (0, 0)) H K] (k : WX false g P ops Q n rest L (K (.cells (List.toArray cs') T (0, 0))))
    (e : setAt cs i vs = cs' := by kernel_rfl) (hv : v.cells = vs.toArray := by kernel_rfl) (hl : vs.length = m := by kernel_rfl) (h1 : oneCells vs = true := by kernel_rfl)
    (hb : Nat.ble (i + vs.length) cs.length = true := by kernel_rfl) : WX false g P ops Q n (⟨none, .store t x y, ty, pos, af, none⟩ :: rest) L H := by subst e; exact WX.storeG hx hy hv hl h1 hb k
theorem stN (cs cs' : List Value) [ht : TL P t 1 false] (hx : ev L x = some (.pointer (some ⟨b, i, none⟩))) (hy : ev L y = some v) [hf : Foc b (.cells (List.toArray cs) T (0, 0)) H K] (k : WX false g P ops Q n rest L (K (.cells (List.toArray cs') T (0, 0))))
    (e : cs.set i v = cs' := by kernel_rfl) (h1 : v.oneCell' = true := by kernel_rfl) (hb : Nat.blt i cs.length = true := by kernel_rfl) : WX false g P ops Q n (⟨none, .store t x y, ty, pos, af, none⟩ :: rest) L H := by subst e; exact WX.store hx hy h1 hb k
/-- A whole struct is written. -/
theorem sGW (cs vs : List Value) [ht : TL P t m ag] (hx : ev L x = some (.pointer (some ⟨b, 0, none⟩))) (hy : ev L y = some v) [hf : Foc b (.cells (List.toArray cs) T (0, 0)) H K] (k : WX false g P ops Q n rest L (K (.cells (List.toArray vs) T (0, 0))))
    (hv : v.cells = vs.toArray := by kernel_rfl) (hl : vs.length = m := by kernel_rfl) (hlc : cs.length = vs.length := by kernel_rfl) (h1 : oneCells vs = true := by kernel_rfl) : WX false g P ops Q n (⟨none, .store t x y, ty, pos, af, none⟩ :: rest) L H :=
  sGN cs vs vs hx hy k (setAt_whole hlc) hv hl h1 (Nat.ble_eq_true_of_le (by omega))
end
end Go.Sl
namespace Go.Proofs.Ytfcefidmdijjkaa
open Go Go.Sl

def updF {α : Type} (f : Nat → α) (r : Nat) (x : α) : Nat → α := fun i => if i = r then x else f i
theorem updF_same {α : Type} {f : Nat → α} {r : Nat} {x : α} : updF f r x r = x := if_pos rfl
theorem updF_ne {α : Type} {f : Nat → α} {r i : Nat} {x : α} (h : i ≠ r) : updF f r x i = f i := if_neg h
abbrev WTy : Nat := 95
/-- Three watches. -/
def W3 (T : Nat) (bq : Nat → Nat) (wt : Nat → List Int) (h : Hp) : Prop := ∃ h0 h1 h2, h = h0 ++ (h1 ++ h2) ∧ WAt T (bq 0) (wt 0) h0 ∧ WAt T (bq 1) (wt 1) h1 ∧ WAt T (bq 2) (wt 2) h2
/-- One of them alone, and what stands beside it. -/
theorem W3.at {T : Nat} {bq : Nat → Nat} {wt : Nat → List Int} {h : Hp} (w : W3 T bq wt h) {r : Nat} (hr : r < 3) :
    ∃ x f, WAt T (bq r) (wt r) x ∧ h.Perm (x ++ f) ∧ ∀ y xs, WAt T (bq r) xs y → ∃ h', W3 T bq (updF wt r xs) h' ∧ (y ++ f).Perm h' := by
  obtain ⟨h0, h1, h2, rfl, a0, a1, a2⟩ := w
  rcases (by omega : r = 0 ∨ r = 1 ∨ r = 2) with rfl | rfl | rfl
  · exact ⟨h0, h1 ++ h2, a0, List.Perm.refl _, fun y xs hy => ⟨y ++ (h1 ++ h2), ⟨y, h1, h2, rfl, hy, a1, a2⟩, List.Perm.refl _⟩⟩
  · refine ⟨h1, h0 ++ h2, a1, ?_, fun y xs hy => ⟨h0 ++ (y ++ h2), ⟨h0, y, h2, rfl, a0, hy, a2⟩, ?_⟩⟩
    · rw [← List.append_assoc, ← List.append_assoc]; exact List.Perm.append_right _ List.perm_append_comm
    · rw [← List.append_assoc, ← List.append_assoc]; exact List.Perm.append_right _ List.perm_append_comm
  · refine ⟨h2, h0 ++ h1, a2, ?_, fun y xs hy => ⟨h0 ++ (h1 ++ y), ⟨h0, h1, y, rfl, a0, a1, hy⟩, ?_⟩⟩
    · rw [← List.append_assoc]; exact List.perm_append_comm
    · rw [← List.append_assoc h0 h1 y]; exact List.perm_append_comm
/-- A call on one of them that only reads. -/
theorem W3.ctQ {P : Program} {T : Nat} {bq : Nat → Nat} {wt : Nat → List Int} {h : Hp} (w : W3 T bq wt h) {r : Nat} (hr : r < 3) {f : FuncId} {args : List Value} {u : Value}
    (k : ∀ x, WAt T (bq r) (wt r) x → Ct P f args [x] (fun v H' => v = u ∧ H' = [x])) : Ct P f args [h] (fun v H' => v = u ∧ H' = [h]) := by
  obtain ⟨x, fr, hx, hp, _⟩ := w.at hr
  have h1 := (k x hx).ext (r := fr)
  refine ⟨fun g R w hw => (h1.calls g R w (hw.perm (by simpa using hp.append_right R))).mono fun e w' ⟨v, H', he, ⟨hv, hH⟩, ho⟩ => ?_⟩
  subst hH
  exact ⟨v, [h], he, ⟨hv, rfl⟩, ho.perm (by simpa using (hp.append_right R).symm)⟩
/-- A call on one of them, with other memory. -/
theorem W3.ct {P : Program} {T : Nat} {bq : Nat → Nat} {wt : Nat → List Int} {h : Hp} (w : W3 T bq wt h) {r : Nat} (hr : r < 3) {f : FuncId} {args : List Value} {u : Value} {i : Hp} {xs : List Int}
    (k : ∀ x, WAt T (bq r) (wt r) x → Ct P f args [x, i] (fun v H' => v = u ∧ ∃ y, H' = [y, i] ∧ WAt T (bq r) xs y)) : Ct P f args [h, i] (fun v H' => v = u ∧ ∃ h', H' = [h', i] ∧ W3 T bq (updF wt r xs) h') := by
  obtain ⟨x, fr, hx, hp, hback⟩ := w.at hr
  refine ⟨fun g R w hw => ((k x hx).calls g (fr ++ R) w (hw.perm ?_)).mono fun e w' ⟨v, H', he, ⟨hv, y, hH, hy⟩, ho⟩ => ?_⟩
  · simp only [List.cons_append, List.nil_append, List.flatten_cons, List.flatten_nil, List.append_nil]
    refine (hp.append_right (i ++ R)).trans ?_
    rw [List.append_assoc]
    refine List.Perm.append_left x ?_
    rw [← List.append_assoc, ← List.append_assoc]
    exact List.Perm.append_right R List.perm_append_comm
  · subst hH
    obtain ⟨h', hw', hp'⟩ := hback y xs hy
    refine ⟨v, [h', i], he, ⟨hv, h', rfl, hw'⟩, ho.perm ?_⟩
    simp only [List.cons_append, List.nil_append, List.flatten_cons, List.flatten_nil, List.append_nil]
    refine List.Perm.trans ?_ (hp'.append_right (i ++ R))
    rw [List.append_assoc]
    refine List.Perm.append_left y ?_
    rw [← List.append_assoc, ← List.append_assoc]
    exact List.Perm.append_right R List.perm_append_comm
/-- A call on one of them that reads, and answers with new memory. -/
theorem W3.ctN {P : Program} {T : Nat} {bq : Nat → Nat} {wt : Nat → List Int} {h : Hp} (w : W3 T bq wt h) {r : Nat} (hr : r < 3) {f : FuncId} {args : List Value} {p : Value → Hp → Prop}
    (k : ∀ x, WAt T (bq r) (wt r) x → Ct P f args [x] (fun v H' => ∃ y, H' = [x, y] ∧ p v y)) : Ct P f args [h] (fun v H' => ∃ y, H' = [h, y] ∧ p v y) := by
  obtain ⟨x, fr, hx, hp, _⟩ := w.at hr
  refine ⟨fun g R w hw => ((k x hx).calls g (fr ++ R) w (hw.perm ?_)).mono fun e w' ⟨v, H', he, ⟨y, hH, hy⟩, ho⟩ => ?_⟩
  · simp only [List.cons_append, List.nil_append, List.flatten_cons, List.flatten_nil, List.append_nil]
    rw [← List.append_assoc]
    exact hp.append_right R
  · subst hH
    refine ⟨v, [h, y], he, ⟨y, rfl, hy⟩, ho.perm ?_⟩
    simp only [List.cons_append, List.nil_append, List.flatten_cons, List.flatten_nil, List.append_nil]
    refine List.Perm.trans ?_ (hp.symm.append_right (y ++ R))
    rw [List.append_assoc]
    refine List.Perm.append_left x ?_
    rw [← List.append_assoc, ← List.append_assoc]
    exact List.Perm.append_right R List.perm_append_comm
/-- A call on one of them that turns it. -/
theorem W3.ct1 {P : Program} {T : Nat} {bq : Nat → Nat} {wt : Nat → List Int} {h : Hp} (w : W3 T bq wt h) {r : Nat} (hr : r < 3) {f : FuncId} {args : List Value} {u : Value} {xs : List Int}
    (k : ∀ x, WAt T (bq r) (wt r) x → Ct P f args [x] (fun v H' => v = u ∧ ∃ y, H' = [y] ∧ WAt T (bq r) xs y)) : Ct P f args [h] (fun v H' => v = u ∧ ∃ h', H' = [h'] ∧ W3 T bq (updF wt r xs) h') := by
  obtain ⟨x, fr, hx, hp, hback⟩ := w.at hr
  refine ⟨fun g R w hw => ((k x hx).calls g (fr ++ R) w (hw.perm ?_)).mono fun e w' ⟨v, H', he, ⟨hv, y, hH, hy⟩, ho⟩ => ?_⟩
  · simp only [List.cons_append, List.nil_append, List.flatten_cons, List.flatten_nil, List.append_nil]
    rw [← List.append_assoc]
    exact hp.append_right R
  · subst hH
    obtain ⟨h', hw', hp'⟩ := hback y xs hy
    refine ⟨v, [h'], he, ⟨hv, h', rfl, hw'⟩, ho.perm ?_⟩
    simp only [List.cons_append, List.nil_append, List.flatten_cons, List.flatten_nil, List.append_nil]
    rw [← List.append_assoc]
    exact hp'.append_right R
end Go.Proofs.Ytfcefidmdijjkaa

/-
  master: told, lay.
-/
set_option linter.unusedVariables false
set_option linter.unusedSimpArgs false
namespace Go.Proofs.Ytfcefidmdijjkaa
open Go Go.Sl

/-- An up master's block. -/
structure Mu where
  (dcs rn nn cl dc : Int)
  (d w : Nat)
  c : Nat → Cfg
  bq : Nat → Nat
abbrev Mu.mt (m : Mu) : Mt := ⟨m.dcs, m.rn, m.nn, m.cl, m.dc, m.d, true, some m.w, m.c 0, m.c 1, m.c 2, some (m.bq 0), some (m.bq 1), some (m.bq 2)⟩
def Mu.upd (m : Mu) (r : Nat) (x : Cfg) : Mu := ⟨m.dcs, m.rn, m.nn, m.cl, m.dc, m.d, m.w, updF m.c r x, m.bq⟩
theorem Mt.cfgAt (m : Mu) {r : Nat} (hr : r < 3) : ((Mt.enc m.mt).drop (8 + r * 13)).take 13 = (m.c r).enc := by
  rcases (by omega : r = 0 ∨ r = 1 ∨ r = 2) with rfl | rfl | rfl <;> rfl
theorem Mt.cfgSet (m : Mu) {r : Nat} (hr : r < 3) (x : Cfg) : setAt (Mt.enc m.mt) (8 + r * 13) x.enc = Mt.enc (m.upd r x).mt := by
  rcases (by omega : r = 0 ∨ r = 1 ∨ r = 2) with rfl | rfl | rfl <;> kernel_rfl
theorem Mt.wAt (m : Mu) {r : Nat} (hr : r < 3) : (Mt.enc m.mt)[47 + r]? = some (.pointer (some ⟨m.bq r, 0, none⟩)) := by
  rcases (by omega : r = 0 ∨ r = 1 ∨ r = 2) with rfl | rfl | rfl <;> rfl
theorem Mt.len (m : Mt) : (Mt.enc m).length = 50 := rfl
theorem Mt.cfgIn (m : Mu) {r : Nat} (hr : r < 3) (x : Cfg) : Nat.ble (0 + 8 + ((r : Nat) : Int).toNat * 13 + x.enc.length) (Mt.enc m.mt).length = true := Nat.ble_eq_true_of_le (by show 0 + 8 + r * 13 + 13 ≤ 50; omega)
theorem Cfg.lenE (c : Cfg) : c.enc.length = 13 := rfl
/-- What tells a node its chain. -/
def tellM (dc : Int) (r : Nat) (n : Int) (c : Cfg) : Msg := { Msg.z with kind := 9, fr := ⟨2, dc, 0, 0⟩, to := ⟨1, dc, (r : Int), n⟩, cf := c }
set_option maxRecDepth 4000 in
theorem told_ct (b : Nat) (m : Mu) {r : Nat} (hr : r < 3) (n : Int) : Ct Try.prog 29 [.pointer (some ⟨b, 0, none⟩), .int .i64 (r : Int), .int .i64 n] [MtBk b m.mt] (fun v H' => v = .agg (List.toArray (tellM m.dc r n (m.c r)).enc) ∧ H' = [MtBk b m.mt]) := by
  refine Ct.mk' Try.func29 rfl rfl rfl (fun g R => ?_)
  try simp only [List.cons_append]
  simp only [List.nil_append]
  repeat' (first | refine go ?_ | refine al (fun _ => ?_) | fail)
  rename_i b6
  refine W.flat (H' := [[(b6, .cells (List.toArray Msg.z.enc) 49 (0, 0))], MtBk b m.mt, R]) rfl ?_
  refine W.mixN 8 (List.replicate 19 true) [MtBk b m.mt] Try.mix (by kernel_rfl) ?_
  repeat' (first | refine go ?_ | refine mv ?_ | (refine I.ld ?_; refine ld rfl ?_) | (refine I.fa ?_; refine fa ?_) | (refine I.nc ?_; refine nc ?_) | refine mN ?_ | refine mU ?_ | (refine I.ix ?_; refine iP ?_) | (refine I.bd ?_; first | refine bdN (t := 32) [.int .i64 2, .int .i64 m.dc, .int .i64 0, .int .i64 0] ?_ (hf' := by exact rfl) | refine bdN (t := 32) [.int .i64 1, .int .i64 m.dc, .int .i64 (r : Int), .int .i64 n] ?_ (hf' := by exact rfl) | refine bdN (tellM m.dc r n (m.c r)).enc ?_) | (refine I.ld ?_; refine lAN (Mt.enc m.mt) (m.c r).enc rfl ?_ (hc := Mt.cfgAt m hr)) | (refine I.st ?_; refine sGW Msg.z.enc (tellM m.dc r n (m.c r)).enc rfl rfl ?_) | fail)
  exact D.finR1 [MtBk b m.mt] _ rfl (.cellA rfl rfl .nil) ⟨rfl, rfl⟩

/-- What is told to all of a range. -/
def tells (dc : Int) (r k : Nat) (c : Cfg) : List Msg := (List.range k).map fun (i : Nat) => tellM dc r (i : Int) c
theorem tells_succ {dc : Int} {r k : Nat} {c : Cfg} : tells dc r (k + 1) c = tells dc r k c ++ [tellM dc r (k : Int) c] := by unfold tells; rw [List.range_succ, List.map_append]; rfl
theorem tells_len {dc : Int} {r k : Nat} {c : Cfg} : (tells dc r k c).length = k := by unfold tells; rw [List.length_map, List.length_range]
structure LayR where
  l : List Lf
  c : Nat → Cfg
  out : List Msg
def layR (l : List Lf) (cf : Nat → Cfg) (dc : Int) (nn r : Nat) (c : Cfg) : LayR := if roomB l 1 = true then ⟨layL l r c, updF cf r c, tells dc r nn c⟩ else ⟨l, cf, []⟩
def Mu.cs (m : Mu) (c : Nat → Cfg) : Mu := ⟨m.dcs, m.rn, m.nn, m.cl, m.dc, m.d, m.w, c, m.bq⟩
set_option maxRecDepth 4000 in
theorem lay_ct (b : Nat) (m : Mu) {nn : Nat} (hnn : m.nn = (nn : Int)) (h4 : nn ≤ 4) {l : List Lf} (L : MLog l) {h : Hp} (hd : IsDk (dk l) m.d h) {torn : Int} {r : Nat} (hr : r < 3) {c : Cfg} (hc : CfgN c) :
    Ct Try.prog 19 [.pointer (some ⟨b, 0, none⟩), .int .i64 (r : Int), .agg (List.toArray c.enc)] [MtBk b m.mt, WBk m.w m.d (lastN l) torn, h]
      (fun v H' => ∃ h' ho, H' = [MtBk b (m.cs (layR l m.c m.dc nn r c).c).mt, WBk m.w m.d (lastN (layR l m.c m.dc nn r c).l) torn, h', ho] ∧ IsDk (dk (layR l m.c m.dc nn r c).l) m.d h' ∧ IsSl 49 (layR l m.c m.dc nn r c).out v ho) := by
  have hroomc := room_ct L.ok hd (w := m.w) (seg := lastN l) (torn := torn) 1
  refine Ct.mk' Try.func19 rfl rfl rfl (fun g R => ?_)
  try simp only [List.cons_append]
  simp only [List.nil_append]
  repeat' (first | refine go ?_ | refine mv ?_ | (refine I.ld ?_; refine ld rfl ?_) | refine asg ?_ | (refine I.fa ?_; refine fa ?_) | (refine I.nc ?_; refine nc ?_) | refine bx rfl (fun _ => ?_) | fail)
  rename_i b5
  refine WX.callQ rfl hroomc rfl ?_
  cases hrm : roomB l 1 with
  | false =>
    have hl : layR l m.c m.dc nn r c = ⟨l, m.c, []⟩ := by unfold layR; rw [hrm]; rfl
    rw [hl]
    repeat' (first | refine go ?_ | refine asg ?_ | (refine I.cond ?_; refine cT ?_) | (refine I.un ?_; refine nt ?_) | fail)
    refine D.nilH ?_
    exact D.fin1 [MtBk b m.mt, WBk m.w m.d (lastN l) torn, h, []] _ rfl rfl ⟨h, [], rfl, hd, IsSl.nil _⟩
  | true =>
    have hl : layR l m.c m.dc nn r c = ⟨layL l r c, updF m.c r c, tells m.dc r nn c⟩ := by unfold layR; rw [hrm]; rfl
    rw [hl]
    obtain ⟨g1, g2, g3⟩ := lay_log L (show r ≤ 1000 by omega) hc hrm
    repeat' (first | refine go ?_ | (refine I.cond ?_; refine cF ?_) | (refine I.un ?_; refine nt ?_) | fail)
    refine W.mixN 8 (List.replicate 7 true ++ [false]) [MtBk b m.mt, [(b5, .cells (List.toArray c.enc) 37 (0, 0))]] Try.mix (by kernel_rfl) ?_
    repeat' (first | refine go ?_ | refine mv ?_ | (refine I.ld ?_; refine ld rfl ?_) | (refine I.fa ?_; refine fa ?_) | (refine I.nc ?_; refine nc ?_) | refine mU ?_ | refine mA ?_ | (refine I.bd ?_; refine bdN (recE r c).enc ?_) | (refine I.ld ?_; refine lAN c.enc c.enc rfl ?_) | fail)
    refine I.bs ?_
    refine WX.lit (ys := [recE r c]) rfl rfl rfl rfl rfl rfl (by decide) rfl (fun v2 h2 hs2 => ?_)
    repeat' (first | refine go ?_ | refine mN ?_ | fail)
    refine WX.call rfl (add_ct (w := m.w) (torn := torn) L.ok hd hs2.rs (by simp only [List.length_cons, List.length_nil]; omega) (by intro x hx; rw [List.mem_singleton.1 hx]; exact Nat.zero_le _)) rfl ?_
    rintro _ _ ⟨h3, rfl, rfl, hd3⟩
    rw [ladd_1] at hd3 ⊢
    simp only [List.cons_append, List.nil_append]
    repeat' (first | refine go ?_ | refine mv ?_ | (refine I.ld ?_; refine ld rfl ?_) | (refine I.fa ?_; refine fa ?_) | (refine I.nc ?_; refine nc ?_) | fail)
    refine WX.call rfl (sync_ct (w := m.w) (torn := torn) (seg := lastN (ladd1 l (recE r c)).1) (by have := L.ok.add1 (recE r c); exact this) hd3) rfl ?_
    rintro _ _ ⟨h4', rfl, rfl, hd4⟩
    simp only [List.cons_append, List.nil_append]
    repeat' (first | refine go ?_ | fail)
    refine W.mixN 8 (List.replicate 6 true) [[(b5, .cells (List.toArray c.enc) 37 (0, 0))]] Try.mix (by kernel_rfl) ?_
    repeat' (first | refine go ?_ | refine mv ?_ | (refine I.ld ?_; refine ld rfl ?_) | refine asg ?_ | (refine I.fa ?_; refine fa ?_) | (refine I.nc ?_; refine nc ?_) | refine mN ?_ | refine mU ?_ | (refine I.ix ?_; refine iP ?_) | (refine I.ld ?_; refine lAN c.enc c.enc rfl ?_) | (refine I.st ?_; refine sGN (Mt.enc m.mt) c.enc (Mt.enc (m.upd r c).mt) rfl rfl ?_ (e := Mt.cfgSet m hr c) (hb := Mt.cfgIn m hr c)) | fail)
    refine W.nilH ?_
    refine W.loop (α := Nat × Value × Hp) (fun x => x.1 ≤ nn ∧ IsSl 49 (tells m.dc r x.1 c) x.2.1 x.2.2)
      (fun x => [(0, .pointer (some ⟨b, 0, none⟩)), (1, .int .i64 (r : Int)), (7, x.2.1), (39, .int .i64 (nn : Int)), (40, .int .i64 (x.1 : Int))]) (fun x => [x.2.2, MtBk b (m.upd r c).mt, WBk m.w m.d (lastN (ladd1 l (recE r c)).1) torn, h4', R]) (fun x => nn - x.1) (0, .slice none 0 0, []) ⟨Nat.zero_le _, IsSl.nil _⟩ (by rw [← hnn]; refine Fsub.cons rfl (Fsub.cons rfl (Fsub.cons rfl (Fsub.cons rfl (Fsub.cons rfl Fsub.nil))))) (Hsub.of_picks inferInstance) ?_
    rintro ⟨k, v, ho⟩ ⟨hk, hs⟩
    simp only [] at hk hs ⊢
    have htl : (tells m.dc r k c).length ≤ 4 := by rw [tells_len]; omega
    have htc : (m.upd r c).c r = c := updF_same
    have htold := told_ct b (m.upd r c) hr (k : Int)
    rw [htc] at htold
    by_cases hlt : k < nn
    · repeat' (first | refine go ?_ | refine mv ?_ | refine asg ?_ | (refine I.bin ?_; refine cm rfl rfl ?_) | (refine I.cond ?_; refine cP ?_) | fail)
      refine WX.callQ rfl htold rfl ?_
      refine I.bs ?_
      refine WX.lit (ys := [tellM m.dc r (k : Int) c]) rfl rfl rfl rfl rfl rfl (by decide) rfl (fun v5 h5 hs5 => ?_)
      skip
      refine WX.app rfl rfl hs hs5.rs rfl rfl (by decide) (by simp only [List.length_cons, List.length_nil]; omega) rfl (fun v6 h6 hs6 => ?_)
      rw [← tells_succ] at hs6
      repeat' (first | refine go ?_ | refine mv ?_ | refine asg ?_ | (refine I.bin ?_; refine ad ?_) | fail)
      exact D.round (k + 1, v6, h6) ⟨by simp only []; omega, hs6⟩ (by simp only []; omega) (by repeat (first | exact Fsub.nil | refine Fsub.cons rfl ?_)) (Hsub.of_picks inferInstance)
    · obtain rfl : k = nn := by omega
      repeat' (first | refine go ?_ | refine mv ?_ | refine asg ?_ | (refine I.bin ?_; refine cm rfl rfl ?_) | (refine I.cond ?_; refine cN ?_) | fail)
      exact D.fin1 [MtBk b (m.upd r c).mt, WBk m.w m.d (lastN (ladd1 l (recE r c)).1) torn, h4', ho] _ rfl rfl ⟨h4', ho, by unfold layL; rw [lastN_sync]; rfl, hd4, hs⟩
end Go.Proofs.Ytfcefidmdijjkaa
