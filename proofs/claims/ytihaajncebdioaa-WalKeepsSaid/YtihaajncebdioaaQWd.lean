/-
  Texts of one road, one behind the other.
-/
import Derived.Test.YtihaajncebdioaaQWa
import Derived.ProofKit
import Derived.SizedLaws
import Derived.ChangeCalls
import Derived.Deep.Slices
import Derived.OpenShut
import Derived.Test.YtihaajncebdioaaRows
import Derived.Test.YtihaajncebdioaaQWc
/-
  From the form of a law's statement to a contract: what the arguments read as; that nothing that was there has turned.
-/
set_option linter.unusedVariables false
set_option linter.unusedSimpArgs false
namespace Go.Sl
open Go

/-- All that the world holds, block by block. -/
def initHp (w : World) : Hp := w.heap.toList.zipIdx.map fun x => (x.2, x.1)
theorem initHp_mem {w : World} {b : Nat} {o : Obj} : (b, o) ∈ initHp w ↔ w.heap[b]? = some o := by
  unfold initHp
  rw [List.mem_map]
  constructor
  · rintro ⟨⟨o', i⟩, hm, he⟩
    cases he
    have := List.mem_zipIdx hm
    simp at this
    obtain ⟨h1, h2⟩ := this
    rw [Array.getElem?_eq_getElem h1, h2]
  · intro h
    refine ⟨(o, b), ?_, rfl⟩
    rw [List.mem_zipIdx_iff_getElem?]
    simpa using h
theorem initHp_on (w : World) : on w (initHp w) w := by
  refine ⟨Amb.refl w, ?_, fun b o h => initHp_mem.1 h⟩
  unfold initHp
  rw [List.map_map]
  have : (Prod.fst ∘ fun x : Obj × Nat => (x.2, x.1)) = Prod.snd := by funext x; rfl
  rw [this, List.zipIdx_map_snd]
  exact List.nodup_range'
theorem initHp_below {w w' : World} (h : on w (initHp w) w') : RowKit.Below w.heap.size w w' := by
  refine ⟨h.1.os, h.1.tape, h.1.output, h.1.size, fun k hk => ?_⟩
  have := h.2.2 k _ (initHp_mem.2 (Array.getElem?_eq_getElem hk))
  rw [this, Array.getElem?_eq_getElem hk]
theorem initHp_cell {w : World} {p : Addr} {u : Value} (h : w.cell? p = some u) {g w' : World} (ho : on g (initHp w) w') : w'.cell? p = some u := by
  unfold World.cell? at h ⊢
  cases hb : w.heap[p.block]? with
  | none => simp [hb] at h
  | some o =>
    rw [ho.2.2 _ _ (initHp_mem.2 hb)]
    rwa [hb] at h

/-- In the world w the value reads as these elements. -/
def RsW {α : Type} [Enc α] (w : World) (xs : List α) (v : Value) : Prop :=
  ∃ a c, v = .slice a xs.length c ∧ xs.length ≤ c ∧ ∀ k y, xs[k]? = some y → ∃ b off, a = some ⟨b, off, none⟩ ∧ ∀ j u, (Enc.enc y)[j]? = some u → w.cell? ⟨b, off + (k * Enc.sz α + j), none⟩ = some u
theorem RsW.rs {α : Type} [Enc α] {w : World} {xs : List α} {v : Value} (h : RsW w xs v) : Rs xs v (initHp w) := by
  obtain ⟨a, c, e, le, f⟩ := h
  refine ⟨a, c, e, le, fun k y hk => ?_⟩
  obtain ⟨b, off, e1, e2⟩ := f k y hk
  exact ⟨b, off, e1, fun j u hu g w' ho => initHp_cell (e2 j u hu) ho⟩

/-- What reads at all at the type t is an α, of which I holds. -/
def RdOk (P : Program) (t : Nat) (α : Type) [Enc α] (I : World → α → Prop) : Prop :=
  ∀ (H : Type) (enc : TypeId × Value → H) (w : World) (fuel : Nat) (cs : List Value) (x : DataW H × List MemPlace), DataW.trod enc P w 0 (fun _ => true) true fuel t cs = some x → (∀ l ∈ x.1.weights P t, l ≤ reachBytes) → ∃ y : α, cs = Enc.enc y ∧ I w y

def I64 (n : Int) : Prop := -9223372036854775808 ≤ n ∧ n ≤ 9223372036854775807
theorem rd_int {P : Program} {t : Nat} [ht : TU P t (.int .i64)] : RdOk P t Int (fun _ n => I64 n) := by
  intro H enc w fuel cs x h _
  obtain ⟨n, rfl, _, hw⟩ := DataW.trod_int ht.h h
  refine ⟨n, rfl, ?_⟩
  simp [Lit.wf, IntKind.min, IntKind.max, IntKind.signed, IntKind.bits] at hw
  exact hw
theorem rd_bool {P : Program} {t : Nat} [ht : TU P t .bool] : RdOk P t Bool (fun _ _ => True) := by
  intro H enc w fuel cs x h _
  obtain ⟨b, rfl, _⟩ := DataW.trod_bool ht.h h
  exact ⟨b, rfl, trivial⟩

theorem weights_slice {H : Type} {P : Program} {t e : Nat} [ht : TU P t (.slice e)] {elems spare : List (DataW H)} (h : ∀ l ∈ (DataW.slice elems spare).weights P t, l ≤ reachBytes) :
    elems.length * P.bytesOf e ≤ reachBytes ∧ ∀ d ∈ elems, ∀ l ∈ d.weights P e, l ≤ reachBytes := by
  simp only [DataW.weights, ht.h] at h
  constructor
  · have := h _ (List.mem_cons_self)
    rw [Nat.add_mul] at this; omega
  · intro d hd l hl
    refine h l (List.mem_cons_of_mem _ (List.mem_append_left _ ?_))
    clear h
    induction elems with
    | nil => cases hd
    | cons y r ih =>
      simp only [DataW.weightsAll]
      rcases List.mem_cons.1 hd with rfl | hd
      · exact List.mem_append_left _ hl
      · exact List.mem_append_right _ (ih hd)
theorem weights_each {H : Type} {P : Program} : ∀ {ts : List TypeId} {ds : List (DataW H)} {i : Nat} {t : TypeId} {d : DataW H}, (∀ l ∈ DataW.weightsEach P ts ds, l ≤ reachBytes) → ts[i]? = some t → ds[i]? = some d → ∀ l ∈ d.weights P t, l ≤ reachBytes
  | t :: ts, d :: ds, 0, _, _, h, h1, h2, l, hl => by
    cases h1; cases h2
    exact h l (by simp only [DataW.weightsEach]; exact List.mem_append_left _ hl)
  | t :: ts, d :: ds, i + 1, _, _, h, h1, h2, l, hl => weights_each (ts := ts) (ds := ds) (i := i) (fun l hl => h l (by simp only [DataW.weightsEach]; exact List.mem_append_right _ hl)) (by simpa using h1) (by simpa using h2) l hl
  | [], _, _, _, _, _, h1, _, _, _ => by cases h1
  | _ :: _, [], _, _, _, _, _, h2, _, _ => by cases h2

theorem rd_slice {P : Program} {t e : Nat} {α : Type} [E : Enc α] {I : World → α → Prop} [ht : TU P t (.slice e)] (hsz : P.cellsOf e = Enc.sz α) (he : RdOk P e α I) {H : Type} {enc : TypeId × Value → H} {w : World} {fuel : Nat} {v : Value} {x : DataW H × List MemPlace}
    (h : DataW.trod enc P w 0 (fun _ => true) true fuel t [v] = some x) (hwt : ∀ l ∈ x.1.weights P t, l ≤ reachBytes) :
    ∃ xs : List α, RsW w xs v ∧ (∀ y ∈ xs, I w y) ∧ xs.length * P.bytesOf e ≤ reachBytes := by
  rcases Deep.open_slice ht.h h with ⟨hc, rfl⟩ | ⟨a, len, cap, m, n, D, Pl, hc, _, hl, hm, hmm, rfl, hx⟩
  · simp only [List.cons.injEq, and_true] at hc
    subst hc
    exact ⟨[], ⟨none, 0, rfl, Nat.le_refl _, (fun k y hk => by simp at hk)⟩, (fun y hy => by cases hy), by simp⟩
  · simp only [List.cons.injEq, and_true] at hc
    subst hc
    simp only [if_true] at hmm
    obtain ⟨w1, w2⟩ := weights_slice hwt
    have key : ∀ i, i < len → ∃ y : α, w.cells? 0 (a.add (i * P.cellsOf e)) (P.cellsOf e) = some (Enc.enc y) ∧ I w y := fun i hi => by
      obtain ⟨cs', h1, h2⟩ := hx i (by omega)
      obtain ⟨y, rfl, hy⟩ := he H enc w n cs' _ h2 (w2 (D i) (List.mem_map.2 ⟨i, List.mem_range.2 hi, rfl⟩))
      exact ⟨y, h1, hy⟩
    have : ∃ xs : List α, xs.length = len ∧ ∀ i y, xs[i]? = some y → w.cells? 0 (a.add (i * P.cellsOf e)) (P.cellsOf e) = some (Enc.enc y) ∧ I w y := by
      clear w1 w2 hx hwt h hl hm hmm
      induction len with
      | zero => exact ⟨[], rfl, fun i y h => by simp at h⟩
      | succ k ih =>
        obtain ⟨xs, h1, h2⟩ := ih (fun i hi => key i (by omega))
        obtain ⟨y, h3⟩ := key k (by omega)
        refine ⟨xs ++ [y], by simp [h1], fun i z hz => ?_⟩
        rcases Nat.lt_or_ge i k with hlt | hge
        · exact h2 i z (by rwa [List.getElem?_append_left (by omega)] at hz)
        · rw [List.getElem?_append_right (by omega)] at hz
          have hi : i - xs.length = 0 := by
            rcases Nat.eq_zero_or_pos (i - xs.length) with h | h
            · exact h
            · rw [List.getElem?_eq_none (by simp; omega)] at hz; cases hz
          rw [hi] at hz
          cases hz
          rw [show i = k by omega]
          exact h3
    obtain ⟨xs, rfl, h2⟩ := this
    refine ⟨xs, ⟨some a, cap, rfl, hl, fun k y hk => ?_⟩, fun y hy => ?_, ?_⟩
    · obtain ⟨h3, _⟩ := h2 k y hk
      rw [hsz] at h3
      obtain ⟨_, hlen, hcell⟩ := World.cells?_some h3
      obtain ⟨b, off, spot⟩ := a
      have hp := Enc.pos (α := α)
      have hlt := (List.getElem?_eq_some_iff.1 hk).1
      have hspot : spot = none := by
        obtain ⟨h4, _⟩ := h2 0 xs[0] (List.getElem?_eq_getElem (by omega))
        rw [hsz] at h4
        obtain ⟨_, hlen0, hcell0⟩ := World.cells?_some h4
        have h5 := hcell0 0 hp
        rw [List.getElem?_eq_getElem (by omega)] at h5
        have := World.cell?_spot h5
        simpa [Addr.add] using this
      subst hspot
      refine ⟨b, off, rfl, fun j u hu => ?_⟩
      have hj : j < Enc.sz α := by have := (List.getElem?_eq_some_iff.1 hu).1; rwa [Enc.len] at this
      have := hcell j hj
      rw [hu, add_none, add_none] at this
      rwa [Nat.add_assoc] at this
    · obtain ⟨k, hk⟩ := List.mem_iff_getElem?.1 hy
      exact (h2 k y hk).2
    · simpa using w1

section args
variable {H : Type} {enc : TypeId × Value → H} {P : Program} {W : World} {r : Reach} {base t e : Nat} {v : Value} {d : DataW H} {p : List MemPlace}
theorem arg_int [ht : TU P t (.int .i64)] (hv : Value.okWide P W r base t v) (h : DataW.Trod enc P W 0 (fun _ => true) true t v d p) : ∃ n, v = .int .i64 n ∧ I64 n := by
  obtain ⟨x, rfl, _, _, hw⟩ := ChangeShapes.open_int ht.h hv h
  refine ⟨x, rfl, ?_⟩
  simp [Lit.wf, IntKind.min, IntKind.max, IntKind.signed, IntKind.bits] at hw
  exact hw
theorem arg_slice {α : Type} [E : Enc α] {I : World → α → Prop} [ht : TU P t (.slice e)] (hsz : P.cellsOf e = Enc.sz α) (he : RdOk P e α I) (hv : Value.okWide P W r base t v) (h : DataW.Trod enc P W 0 (fun _ => true) true t v d p)
    (hwt : ∀ l ∈ d.weights P t, l ≤ reachBytes) : ∃ xs : List α, RsW W xs v ∧ (∀ y ∈ xs, I W y) ∧ xs.length * P.bytesOf e ≤ reachBytes := by
  obtain ⟨a, len, cap, rfl⟩ := WideShapes.okWide_slice ht.h hv
  obtain ⟨fuel, hf⟩ := h
  exact rd_slice (x := (d, p)) hsz he hf hwt
end args

theorem law_calls {P : Program} {f : FuncId} {args : List Value} {W : World} (h : Ct P f args [initHp W] (fun r H' => r = .bool true ∧ H' = [initHp W])) :
    Calls P f args.toArray W fun e W' => e = .returned (.bool true) ∧ RowKit.Below W.heap.size W W' :=
  (h.calls W [] W (by simpa using initHp_on W)).mono fun e W' ⟨v, H', he, ⟨h1, h2⟩, ho⟩ => by
    subst h1; subst h2
    exact ⟨he, initHp_below (by simpa using ho)⟩

/-- ONE LAW: 'true, and the arguments read as they did', out of a run that returns true and turns nothing that was there. -/
theorem law_lifted {C : Checked} {os : Os} {f : FuncId} {fn : Func} {s : ChangeSpec} {H : Type} {enc : TypeId × Value → H} {tb : TypeId}
    (own : ownKnob C.prog.godebug = none) (started : os.Started) (noInit : C.prog.inits.idxOf? f = none) (hfn : C.prog.funcs[f]? = some fn)
    (witness : ∃ (w : World) (tape : Tape) (i : Input), w.os = os ∧ (w.forCall tape i).Shaped C.prog ∧ i.vars = [] ∧ Input.okWide C.prog (w.forCall tape i) .any w.heap.size f i ∧
      s.pre6 enc C.prog fn [] false (w.forCall tape i).memory i.args ∧ ({} : Assume).holds C.prog (lone (Frame.enter C.prog f i.args .normal) [] (w.forCall tape i)))
    (hlaid : laidOutB C.prog = true) (hpar0 : (fn.params.toList.all fun t => C.prog.readableRec t && Nat.blt t C.prog.types.size) = true)
    (hres : fn.resultTypes = #[tb]) (htb : C.prog.underlying tb = some .bool) (hvars : s.vars = [])
    (hspec : ∀ (ds : List (DataW H)), ds.length = fn.params.size → (s.fn H (ds ++ [])).results = [.lit (.bool true)] ∧ (s.fn H (ds ++ [])).args = ds ∧ (s.fn H (ds ++ [])).vars = [])
    (hrun : ∀ (W : World) (base : Nat) (args : Array Value) (ds : List (DataW H)) (p : List MemPlace), (∀ (j : Nat) t v, fn.params[j]? = some t → args[j]? = some v → Value.okWide C.prog W .any base t v) → DataW.TrodAll enc C.prog W 0 (fun _ => true) true fn.params.toList args.toList ds p →
      (∀ l ∈ DataW.weightsEach C.prog fn.params.toList ds, l ≤ reachBytes) → Calls C.prog f args W fun e W' => e = .returned (.bool true) ∧ RowKit.Below W.heap.size W W') :
    ReturnsInHanded {} C os f .any (s.pre6 enc C.prog fn [] false) (s.post enc C.prog fn false true false false) := by
  have hpar : ∀ t ∈ fn.params.toList, C.prog.readableRec t = true ∧ t < C.prog.types.size := fun t ht => by
    have := List.all_eq_true.1 hpar0 t ht
    simp only [Bool.and_eq_true] at this
    exact ⟨this.1, Nat.le_of_ble_eq_true this.2⟩
  refine returnsInHanded_of_change_sized own started noInit hfn witness ?_
  intro W base args ds gs before hval hW _ hsz _
  have hW' := hW
  obtain ⟨p, q, hA, hV, rfl, hfz, hnd⟩ := hW
  rw [hvars] at hV
  have hg : gs = [] ∧ q = [] := by
    cases gs with
    | nil => exact ⟨rfl, hV⟩
    | cons _ _ => exact hV.elim
  obtain ⟨rfl, rfl⟩ := hg
  have hvt : s.plain.varTypes C.prog = [] := by
    simp [ChangeSpec.plain, DataSpec.varTypes, hvars]
  have hwt : ∀ l ∈ DataW.weightsEach C.prog fn.params.toList ds, l ≤ reachBytes := by
    have h1 : (DataW.weightsEach C.prog (fn.params.toList ++ s.plain.varTypes C.prog) (ds ++ [])).all (· ≤ reachBytes) = true := hsz
    rw [hvt, List.append_nil, List.append_nil] at h1
    intro l hl
    simpa using List.all_eq_true.1 h1 l hl
  have hdl : ds.length = fn.params.size := by simpa using (trodAll_length hA).2
  obtain ⟨e1, e2, e3⟩ := hspec ds hdl
  refine (hrun W base args ds p hval hA hwt).mono fun e W' ⟨he, hb⟩ => ?_
  subst he
  have hargs : ∀ {ts : List TypeId} {vs : List Value} {ds : List (DataW H)} {p : List MemPlace}, (∀ t ∈ ts, C.prog.readableRec t = true ∧ t < C.prog.types.size) → DataW.TrodAll enc C.prog W 0 (fun _ => true) true ts vs ds p → (∀ x ∈ p, x.block < W.heap.size) →
      DataW.TrodAll enc C.prog W' 0 (fun b => decide (b < W.heap.size)) true ts vs ds p := by
    intro ts
    induction ts with
    | nil =>
      intro vs ds p _ h _
      cases vs <;> cases ds <;> first | exact h | exact h.elim
    | cons t ts ih =>
      intro vs ds p hp h hlt
      cases vs with
      | nil => exact h.elim
      | cons v vs =>
        cases ds with
        | nil => exact h.elim
        | cons d ds =>
          obtain ⟨p1, p2, h1, h2, rfl⟩ := h
          exact ⟨p1, p2, RowKit.Below.trod hlaid (hp t List.mem_cons_self).1 (hp t List.mem_cons_self).2 h1 hb (fun x hx => hlt x (List.mem_append_left _ hx)), ih (fun t ht => hp t (List.mem_cons_of_mem _ ht)) h2 (fun x hx => hlt x (List.mem_append_right _ hx)), rfl⟩
  have hlt : ∀ x ∈ p, x.block < W.heap.size := DataW.TrodAll.lt hA
  have hres' : fn.resultTypes.toList = [tb] := by rw [hres]
  have hres2 : fn.resultTypes.size = 1 := by rw [hres]; rfl
  refine ⟨_, rfl, ds, [], _, [], p, [], hW', ?_, ?_, ?_, hb.frame _, fun h => by cases h⟩
  · rw [e1, hres', hres2]
    exact ⟨[], [], RowKit.shut_bool htb true, rfl, rfl⟩
  · rw [e2]; exact hargs hpar hA hlt
  · rw [hvars, e3]; rfl
end Go.Sl

/-
  What structs among the inputs read as, field by field.
-/
set_option linter.unusedVariables false
set_option linter.unusedSimpArgs false
namespace Go.Sl
open Go

section
variable {H : Type} {enc : TypeId × Value → H} {P : Program} {w : World} {t ft i off k : Nat} {ag : Bool} {cs : List Value} {v : Value}
/-- The cells read at the type, within what can be reached. -/
def StOk {H : Type} (enc : TypeId × Value → H) (P : Program) (w : World) (t : Nat) (cs : List Value) : Prop :=
  ∃ (fuel : Nat) (x : DataW H × List MemPlace), DataW.trod enc P w 0 (fun _ => true) true fuel t cs = some x ∧ ∀ l ∈ x.1.weights P t, l ≤ reachBytes
theorem TL.cellsOf (h : TL P t k ag) : P.cellsOf t = k := by
  obtain ⟨s, _⟩ := h
  unfold Program.cellsOf
  rw [s]; rfl
theorem StOk.len [ft' : TFt P t i off ft] [tl : TL P t k ag] (h : StOk enc P w t cs) : cs.length = k := by
  obtain ⟨fuel, x, hx, _⟩ := h
  obtain ⟨fs, fd, hu, _⟩ := ft'.h
  obtain ⟨xs, n, _, _, hl, _⟩ := DataW.trod_struct hu hx
  rw [hl, tl.cellsOf]
theorem StOk.field (i : Nat) [ft' : TFt P t i off ft] [tl : TL P ft k ag] (h : StOk enc P w t cs) : StOk enc P w ft ((cs.drop off).take k) := by
  obtain ⟨fuel, x, hx, hw⟩ := h
  obtain ⟨fs, fd, hu, hf, rfl, rfl⟩ := ft'.h
  obtain ⟨xs, n, _, rfl, hl, hlen, hfs⟩ := DataW.trod_struct hu hx
  have h1 := hfs i fd hf
  have hi : i < xs.length := by rw [hlen]; exact (Array.getElem?_eq_some_iff.1 hf).1
  rw [List.getElem?_eq_getElem hi, tl.cellsOf] at h1
  refine ⟨n, xs[i], h1, ?_⟩
  simp only [DataW.weights, hu] at hw
  exact weights_each hw (i := i) (by rw [List.getElem?_map, Array.getElem?_toList, hf]; rfl) (by rw [List.getElem?_map, List.getElem?_eq_getElem hi]; rfl)
theorem StOk.rd {α : Type} [Enc α] {I : World → α → Prop} (hr : RdOk P t α I) (h : StOk enc P w t cs) : ∃ y : α, cs = Enc.enc y ∧ I w y := by
  obtain ⟨fuel, x, hx, hw⟩ := h
  exact hr H enc w fuel cs x hx hw
theorem StOk.int [ht : TU P t (.int .i64)] (h : StOk enc P w t cs) : ∃ n, cs = [.int .i64 n] ∧ I64 n := h.rd rd_int
theorem StOk.bool [ht : TU P t .bool] (h : StOk enc P w t cs) : ∃ b, cs = [.bool b] := let ⟨b, h1, _⟩ := h.rd rd_bool; ⟨b, h1⟩
theorem StOk.slice {e : Nat} {α : Type} [E : Enc α] {I : World → α → Prop} [ht : TU P t (.slice e)] (hsz : P.cellsOf e = Enc.sz α) (he : RdOk P e α I) (h : StOk enc P w t [v]) :
    ∃ xs : List α, RsW w xs v ∧ (∀ y ∈ xs, I w y) ∧ xs.length * P.bytesOf e ≤ reachBytes := by
  obtain ⟨fuel, x, hx, hw⟩ := h
  exact rd_slice hsz he hx hw
theorem rd_of {α : Type} [Enc α] {I : World → α → Prop} (h : ∀ (H : Type) (enc : TypeId × Value → H) (w : World) (cs : List Value), StOk enc P w t cs → ∃ y : α, cs = Enc.enc y ∧ I w y) : RdOk P t α I :=
  fun H enc w fuel cs x hx hw => h H enc w cs ⟨fuel, x, hx, hw⟩
theorem rd_u8 [ht : TU P t (.int .u8)] : RdOk P t UInt8 (fun _ _ => True) := by
  intro H enc w fuel cs x h _
  obtain ⟨n, rfl, _, hw⟩ := DataW.trod_int ht.h h
  simp [Lit.wf, IntKind.min, IntKind.max, IntKind.signed, IntKind.bits] at hw
  refine ⟨UInt8.ofNat n.toNat, ?_, trivial⟩
  have h1 : n.toNat < 256 := by omega
  show _ = [Value.int .u8 ((UInt8.ofNat n.toNat).toNat : Int)]
  rw [UInt8.toNat_ofNat', Nat.mod_eq_of_lt (by simpa using h1), Int.toNat_of_nonneg hw.1]
end
section args
variable {H : Type} {enc : TypeId × Value → H} {P : Program} {W : World} {r : Reach} {base t i off ft : Nat} {v : Value} {d : DataW H} {p : List MemPlace}
theorem arg_struct {α : Type} [E : Enc α] {I : World → α → Prop} (i : Nat) [tf : TFt P t i off ft] (he : RdOk P t α I) (hv : Value.okWide P W r base t v) (h : DataW.Trod enc P W 0 (fun _ => true) true t v d p)
    (hwt : ∀ l ∈ d.weights P t, l ≤ reachBytes) : ∃ y : α, v = .agg (Enc.enc y).toArray ∧ I W y := by
  obtain ⟨fs, fd, hu, _⟩ := tf.h
  obtain ⟨cs, rfl, _⟩ := WideShapes.okWide_struct hu hv
  obtain ⟨fuel, hf⟩ := h
  obtain ⟨y, h1, h2⟩ := he H enc W fuel _ _ hf hwt
  exact ⟨y, by rw [← h1]; rfl, h2⟩
end args
end Go.Sl

/-
  What strings and arrays among the inputs read as.
-/
set_option linter.unusedVariables false
set_option linter.unusedSimpArgs false
namespace Go.Sl
open Go
section
variable {H : Type} {enc : TypeId × Value → H} {P : Program} {w : World} {t e n k : Nat} {ag : Bool} {cs : List Value} {v : Value}
theorem StOk.string [ht : TU P t .string] (h : StOk enc P w t cs) : ∃ s : ByteArray, cs = [.string s] ∧ s.data.toList.length ≤ reachBytes := by
  obtain ⟨fuel, x, hx, hw⟩ := h
  obtain ⟨s, rfl, rfl, _⟩ := DataW.trod_string ht.h hx
  refine ⟨s, rfl, hw _ ?_⟩
  simp [DataW.weights]
theorem weights_all {ds : List (DataW H)} (h : ∀ l ∈ DataW.weightsAll P e ds, l ≤ reachBytes) : ∀ d ∈ ds, ∀ l ∈ d.weights P e, l ≤ reachBytes := by
  induction ds with
  | nil => intro d hd; cases hd
  | cons y r ih =>
    intro d hd l hl
    simp only [DataW.weightsAll] at h
    rcases List.mem_cons.1 hd with rfl | hd
    · exact h l (List.mem_append_left _ hl)
    · exact ih (fun l hl => h l (List.mem_append_right _ hl)) d hd l hl
theorem StOk.lenA [ht : TU P t (.array n e)] [tl : TL P t k ag] (h : StOk enc P w t cs) : cs.length = k := by
  obtain ⟨fuel, x, hx, _⟩ := h
  obtain ⟨xs, m, _, _, hl, _⟩ := DataW.trod_array ht.h hx
  rw [hl, tl.cellsOf]
theorem StOk.elem (i : Nat) [ht : TU P t (.array n e)] [tl : TL P e k ag] (h : StOk enc P w t cs) (hi : i < n) : StOk enc P w e ((cs.drop (i * k)).take k) := by
  obtain ⟨fuel, x, hx, hw⟩ := h
  obtain ⟨xs, m, _, rfl, hl, hlen, hfs⟩ := DataW.trod_array ht.h hx
  have h1 := hfs i hi
  have hi' : i < xs.length := by omega
  rw [List.getElem?_eq_getElem hi', tl.cellsOf] at h1
  refine ⟨m, xs[i], h1, ?_⟩
  simp only [DataW.weights, ht.h] at hw
  exact weights_all hw _ (List.mem_map.2 ⟨_, List.getElem_mem hi', rfl⟩)
end
end Go.Sl

/-
  Two facts on the whole program that each statement's end asks.
-/
namespace Go.Proofs.Ytihaajncebdioaa
open Go Go.Sl

theorem Try.own : ownKnob Try.prog.godebug = none := by kernel_rfl
theorem Try.laidOut : laidOutB Try.prog = true := by kernel_rfl
end Go.Proofs.Ytihaajncebdioaa

/-
  Records and acts among the inputs.
-/
set_option linter.unusedVariables false
set_option linter.unusedSimpArgs false
namespace Go.Proofs.Ytihaajncebdioaa
open Go Go.Sl

section
variable {H : Type} {enc : TypeId × Value → H} {w : World} {t e : Nat} {ag : Bool} {cs : List Value}
theorem rd_col [TU Try.prog t (.array 3 e)] [TL Try.prog t 3 ag] [TL Try.prog e 1 false] [TU Try.prog e (.int .i64)] (h : StOk enc Try.prog w t cs) : ∃ a b c, cs = [.int .i64 a, .int .i64 b, .int .i64 c] := by
  have hl := h.lenA (k := 3)
  match cs, hl with
  | [c0, c1, c2], _ =>
    obtain ⟨n0, e0, _⟩ := (h.elem (k := 1) 0 (by decide)).int
    obtain ⟨n1, e1, _⟩ := (h.elem (k := 1) 1 (by decide)).int
    obtain ⟨n2, e2, _⟩ := (h.elem (k := 1) 2 (by decide)).int
    cases e0; cases e1; cases e2
    exact ⟨n0, n1, n2, rfl⟩
theorem rd_vec (h : StOk enc Try.prog w 44 cs) : ∃ v : V9, cs = v.enc := by
  have hl := h.lenA (k := 9)
  match cs, hl with
  | [c0, c1, c2, c3, c4, c5, c6, c7, c8], _ =>
    obtain ⟨a, b, c, e0⟩ := rd_col (h.elem (k := 3) 0 (by decide))
    obtain ⟨a', b', c', e1⟩ := rd_col (h.elem (k := 3) 1 (by decide))
    obtain ⟨a'', b'', c'', e2⟩ := rd_col (h.elem (k := 3) 2 (by decide))
    cases e0; cases e1; cases e2
    exact ⟨⟨a, b, c, a', b', c', a'', b'', c''⟩, rfl⟩
theorem rd_dot (h : StOk enc Try.prog w 39 cs) : ∃ a b c, cs = [.int .i64 a, .int .i64 b, .int .i64 c] := by
  have hl := h.len (i := 0)
  match cs, hl with
  | [c0, c1, c2], _ =>
    obtain ⟨n0, e0, _⟩ := (h.field 0).int
    obtain ⟨n1, e1, _⟩ := (h.field 1).int
    obtain ⟨n2, e2, _⟩ := (h.field 2).int
    cases e0; cases e1; cases e2
    exact ⟨n0, n1, n2, rfl⟩
theorem rd_stamp (h : StOk enc Try.prog w 41 cs) : ∃ a b c, cs = [.int .i64 a, .int .i64 b, .int .i64 c] := by
  have hl := h.len (i := 0)
  match cs, hl with
  | [c0, c1, c2], _ =>
    obtain ⟨n0, e0, _⟩ := (h.field 0).int
    obtain ⟨n1, e1, _⟩ := (h.field 1).int
    obtain ⟨n2, e2, _⟩ := (h.field 2).int
    cases e0; cases e1; cases e2
    exact ⟨n0, n1, n2, rfl⟩
theorem rd_mem (h : StOk enc Try.prog w 48 cs) : ∃ a b, cs = [.int .i64 a, .int .i64 b] := by
  have hl := h.len (i := 0)
  match cs, hl with
  | [c0, c1], _ =>
    obtain ⟨n0, e0, _⟩ := (h.field 0).int
    obtain ⟨n1, e1, _⟩ := (h.field 1).int
    cases e0; cases e1
    exact ⟨n0, n1, rfl⟩
theorem rd_ent (h : StOk enc Try.prog w 46 cs) : ∃ x : Ent, cs = x.enc ∧ x.key.data.toList.length ≤ reachBytes ∧ x.val.data.toList.length ≤ reachBytes := by
  have hl := h.len (i := 0)
  match cs, hl with
  | [c0, c1, c2, c3, c4, c5, c6, c7, c8, c9, c10, c11, c12, c13, c14, c15, c16, c17, c18, c19], _ =>
    have h0 : StOk enc Try.prog w 39 [c0, c1, c2] := h.field 0
    have h1 : StOk enc Try.prog w 41 [c3, c4, c5] := h.field 1
    obtain ⟨a, b, c, e0⟩ := rd_dot h0
    obtain ⟨a', b', c', e1⟩ := rd_stamp h1
    obtain ⟨key, e2, hk⟩ := (h.field 2).string
    obtain ⟨val, e3, hv⟩ := (h.field 3).string
    obtain ⟨dead, e4⟩ := (h.field 4).bool
    have h5 : StOk enc Try.prog w 44 [c9, c10, c11, c12, c13, c14, c15, c16, c17] := h.field 5
    obtain ⟨dp, e5⟩ := rd_vec h5
    obtain ⟨cl, e6, _⟩ := (h.field 6).int
    obtain ⟨op, e7, _⟩ := (h.field 7).int
    cases e0; cases e1; cases e2; cases e3; cases e4; cases e5; cases e6; cases e7
    exact ⟨⟨a, b, c, a', b', c', key, val, dead, dp, cl, op⟩, rfl, hk, hv⟩
theorem rd_fulls [TU Try.prog t (.array 4 48)] [TL Try.prog t 8 ag] (h : StOk enc Try.prog w t cs) : ∃ a b c d : Mem, cs = [.int .i64 a.nd, .int .i64 a.sn, .int .i64 b.nd, .int .i64 b.sn, .int .i64 c.nd, .int .i64 c.sn, .int .i64 d.nd, .int .i64 d.sn] := by
  have hl := h.lenA (k := 8)
  match cs, hl with
  | [c0, c1, c2, c3, c4, c5, c6, c7], _ =>
    obtain ⟨a, b, e0⟩ := rd_mem (h.elem (k := 2) 0 (by decide))
    obtain ⟨a', b', e1⟩ := rd_mem (h.elem (k := 2) 1 (by decide))
    obtain ⟨a'', b'', e2⟩ := rd_mem (h.elem (k := 2) 2 (by decide))
    obtain ⟨a3, b3, e3⟩ := rd_mem (h.elem (k := 2) 3 (by decide))
    cases e0; cases e1; cases e2; cases e3
    exact ⟨⟨a, b⟩, ⟨a', b'⟩, ⟨a'', b''⟩, ⟨a3, b3⟩, rfl⟩
theorem rd_cfg (h : StOk enc Try.prog w 51 cs) : ∃ x : Cfg, cs = x.enc := by
  have hl := h.len (i := 0)
  match cs, hl with
  | [c0, c1, c2, c3, c4, c5, c6, c7, c8, c9, c10, c11, c12], _ =>
    obtain ⟨ep, e0, _⟩ := (h.field 0).int
    obtain ⟨n, e1, _⟩ := (h.field 1).int
    obtain ⟨f0, f1, f2, f3, e2⟩ := rd_fulls (h.field 2)
    obtain ⟨jo, e3⟩ := (h.field 3).bool
    have h4 : StOk enc Try.prog w 48 [c11, c12] := h.field 4
    obtain ⟨a, b, e4⟩ := rd_mem h4
    cases e0; cases e1; cases e2; cases e3; cases e4
    exact ⟨⟨ep, n, f0, f1, f2, f3, jo, ⟨a, b⟩⟩, rfl⟩
end
theorem cut_at {α : Type} (cs : List α) (a b : Nat) : cs.drop a = (cs.drop a).take b ++ cs.drop (a + b) := by rw [← List.drop_drop, List.take_append_drop]
set_option maxRecDepth 100000 in
theorem rd_rec : RdOk Try.prog 53 Rec (fun _ r => r.size ≤ 562949953421312) := rd_of fun H enc w cs h => by
  have hl : cs.length = 35 := h.len (i := 0)
  have h1 : StOk enc Try.prog w 46 ((cs.drop 1).take 20) := h.field 1
  have h2 : StOk enc Try.prog w 51 ((cs.drop 21).take 13) := h.field 2
  obtain ⟨k, e0, _⟩ := (h.field 0).int
  obtain ⟨e, e1, hk, hv⟩ := rd_ent h1
  obtain ⟨c, e2⟩ := rd_cfg h2
  obtain ⟨b, e3, _⟩ := (h.field 3).int
  have e0 : (cs.drop 0).take 1 = [.int .i64 k] := e0
  have e3 : (cs.drop 34).take 1 = [.int .i64 b] := e3
  refine ⟨⟨k, e, c, b⟩, ?_, ?_⟩
  · have a0 := cut_at cs 0 1
    have a1 := cut_at cs 1 20
    have a2 := cut_at cs 21 13
    have a3 := cut_at cs 34 1
    rw [List.drop_zero] at a0 e0
    rw [e0] at a0
    rw [e1] at a1
    rw [e2] at a2
    rw [e3, show cs.drop (34 + 1) = [] from List.drop_eq_nil_of_le (by omega), List.append_nil] at a3
    rw [a0, show 0 + 1 = 1 from rfl, a1, show 1 + 20 = 21 from rfl, a2, show 21 + 13 = 34 from rfl, a3]
    rfl
  · unfold Rec.size
    simp only []
    unfold reachBytes at hk hv
    omega
def AvOk (w : World) (a : Av) : Prop := ∃ rs : List Rec, RsW w rs a.v ∧ rs.length ≤ 1099511627776 ∧ ∀ r ∈ rs, r.size ≤ 562949953421312
theorem recs_in {n : Nat} (hl : n * Try.prog.bytesOf 53 ≤ reachBytes) : n ≤ 1099511627776 := by
  rw [show Try.prog.bytesOf 53 = 296 by kernel_rfl] at hl
  unfold reachBytes at hl; omega
theorem avs_in {n : Nat} (hl : n * Try.prog.bytesOf 26 ≤ reachBytes) : n ≤ 4398046511104 := by
  rw [show Try.prog.bytesOf 26 = 40 by kernel_rfl] at hl
  unfold reachBytes at hl; omega
set_option maxRecDepth 100000 in
theorem rd_av : RdOk Try.prog 26 Av AvOk := rd_of fun H enc w cs h => by
  have hl := h.len (i := 0)
  match cs, hl with
  | [c0, c1, c2], _ =>
    obtain ⟨k, e0, _⟩ := (h.field 0).int
    have hb : StOk enc Try.prog w 22 [c1] := h.field 1
    obtain ⟨n, e2, _⟩ := (h.field 2).int
    cases e0; cases e2
    obtain ⟨xs, hx, hz, hxl⟩ := hb.slice (e := 53) (α := Rec) (by kernel_rfl) rd_rec
    obtain ⟨p, c, rfl, _⟩ := id hx
    exact ⟨⟨k, p, xs.length, c, n⟩, rfl, xs, hx, recs_in hxl, hz⟩
/-- The records of each act. -/
theorem acts_rss {W : World} : ∀ {avs : List Av}, (∀ a ∈ avs, AvOk W a) → ∃ rss : List (List Rec), avs.length = rss.length ∧ ∀ (i : Nat) (a : Av) (rs : List Rec), avs[i]? = some a → rss[i]? = some rs → RsW W rs a.v ∧ rs.length ≤ 1099511627776 ∧ ∀ r ∈ rs, r.size ≤ 562949953421312
  | [], _ => ⟨[], rfl, fun i a rs h => by simp at h⟩
  | a :: t, h => by
    obtain ⟨rs, h1⟩ := h a (List.mem_cons_self ..)
    obtain ⟨rss, h2, h3⟩ := acts_rss (avs := t) fun x hx => h x (List.mem_cons_of_mem _ hx)
    refine ⟨rs :: rss, by simp [h2], fun i x ys hx hy => ?_⟩
    cases i with
    | zero => cases hx; cases hy; exact h1
    | succ i => exact h3 i x ys hx hy
end Go.Proofs.Ytihaajncebdioaa
