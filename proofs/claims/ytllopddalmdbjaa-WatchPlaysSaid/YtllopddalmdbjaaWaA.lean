/-
  watch: what each function does.
-/
import Derived.Test.YtllopddalmdbjaaTy
set_option linter.unusedVariables false
set_option linter.unusedSimpArgs false
namespace Go.Proofs.Ytllopddalmdbjaa
open Go Go.Sl

/-- A watch at block b: for how long each has been silent. -/
def WAt (T b : Nat) (xs : List Int) (h : Hp) : Prop := ∃ v hv, h = (b, .cells (List.toArray [v]) T (0, 0)) :: hv ∧ IsSl 3 xs v hv
def heard1 (xs : List Int) (i : Int) : List Int := if 0 ≤ i ∧ i < xs.length then xs.set i.toNat 0 else xs
def heardL (xs is : List Int) : List Int := is.foldl heard1 xs
def tick1 (s : Int) : Int := if 1099511627776 < s + 1 then 1099511627776 else s + 1
def tickL (xs : List Int) : List Int := xs.map tick1
theorem heard1_len (xs : List Int) (i : Int) : (heard1 xs i).length = xs.length := by unfold heard1; split <;> simp
theorem heardL_len (xs is : List Int) : (heardL xs is).length = xs.length := by
  unfold heardL
  induction is generalizing xs with
  | nil => rfl
  | cons i r ih => rw [List.foldl_cons, ih, heard1_len]
theorem heardL_snoc {xs is : List Int} {k : Nat} {i : Int} (h : is[k]? = some i) : heardL xs (is.take (k + 1)) = heard1 (heardL xs (is.take k)) i := by
  unfold heardL
  rw [List.take_add_one, h]
  simp [List.foldl_append]

theorem has_ct {b : Nat} {xs : List Int} {h : Hp} (hw : WAt 92 b xs h) (i : Int) :
    Ct Try.prog 49 [.pointer (some ⟨b, 0, none⟩), .int .i64 i] [h] (fun v H' => v = .bool (decide (0 ≤ i ∧ i < xs.length)) ∧ H' = [h]) := by
  obtain ⟨v, hv, rfl, hs⟩ := hw
  have hr := hs.rs
  refine Ct.mk' Try.func49 rfl rfl rfl (fun g R => ?_)
  try simp only [List.cons_append]
  simp only [List.nil_append]
  repeat' (first
  | refine W.seq ?_ | refine W.region ?_ | refine WX.nil ?_ | refine D.seq ?_ | refine W.block ?_ | refine D.blk ?_ | refine W.skip ?_ | refine W.exit ?_ | refine W.ret ?_
  | refine WM.nil ?_ | refine WM.un ?_ | refine WM.an ?_ | refine WM.backU ?_ | refine WM.back ?_
  | refine D.blkX ?_ | refine D.blkY rfl ?_ | refine D.roundX ?_ | refine D.roundR ?_ | refine D.blkR ?_
  | (refine I.gd ?_; first | refine WX.gy rfl rfl ?_ | refine WX.gn rfl rfl rfl rfl ?_ | refine WX.gnN rfl rfl rfl ?_ | refine WX.gT rfl rfl (by first | assumption | omega) ?_ | refine WX.gF rfl rfl (by first | assumption | omega) ?_ | refine WX.gS rfl rfl (fun _ => ?_) (fun _ => ?_))
  | (refine I.cond ?_; first | refine W.condT rfl ?_ | refine W.condF rfl ?_ | refine W.condP rfl (by first | assumption | omega) ?_ | refine W.condN rfl (by first | assumption | omega) ?_)
  | (refine I.mv ?_; refine WX.move rfl rfl ?_) | (refine I.as ?_; refine WX.assign rfl rfl ?_)
  | (refine I.nc ?_; first | refine WX.nilCheck rfl rfl ?_ | refine WX.nilE rfl (by assumption) (by assumption) rfl ?_)
  | (refine I.fa ?_; first | refine WX.fieldAddr rfl rfl ?_ | refine WX.fieldE rfl (by assumption) (by assumption) rfl ?_)
  | (refine I.ld ?_; first | refine WX.load rfl rfl rfl ?_ | refine WX.loadE rfl (by assumption) (by assumption) rfl rfl rfl ?_ | refine WX.loadA rfl rfl rfl rfl ?_)
  | (refine I.bin ?_; first | refine WX.lss rfl rfl rfl ?_ | refine WX.eql rfl rfl rfl ?_ | refine WX.neq rfl rfl rfl ?_ | refine WX.leq rfl rfl rfl ?_ | refine WX.gtr rfl rfl rfl ?_ | refine WX.geq rfl rfl rfl ?_ | refine WX.add rfl rfl rfl (by omega) ?_ | refine WX.sub' rfl rfl rfl (by omega) ?_ | refine WX.eqPN rfl rfl rfl ?_ | refine WX.nePN rfl rfl rfl ?_ | refine WX.eqNN rfl rfl rfl ?_ | refine WX.neNN rfl rfl rfl ?_)
  | (refine I.un ?_; first | refine WX.notD rfl rfl ?_ | refine WX.not rfl rfl ?_)
  | (refine I.pk ?_; first | refine WX.pickT rfl rfl rfl ?_ | refine WX.pickF rfl rfl rfl ?_)
  | (refine I.bi ?_; first | refine WX.lenSl rfl (by assumption) rfl ?_ | refine WX.len rfl rfl ?_ | refine WX.lenS rfl rfl ?_ | refine WX.min rfl rfl rfl ?_ | refine WX.max rfl rfl rfl ?_)
  | (refine I.ix ?_; first | refine WX.idx rfl rfl (by assumption) (by assumption) rfl ?_ | refine WX.idxI rfl rfl (by assumption) (by omega) (by assumption) rfl ?_)
  | (refine I.sl ?_; refine WX.slTo rfl rfl (by assumption) (by omega) rfl ?_)
  | (refine I.st ?_; first | (refine WX.store rfl rfl rfl rfl ?_; try simp only [List.set_cons_zero, List.set_cons_succ, Nat.reduceAdd]) | (refine WX.storeG rfl rfl rfl rfl rfl rfl ?_; try simp only [setAt, List.set_cons_zero, List.set_cons_succ, Nat.reduceAdd]))
  | (refine I.bd ?_; refine WX.build rfl rfl rfl ?_; try simp only [setAt, Value.cells, List.set_cons_zero, List.set_cons_succ]) | (refine I.bx ?_; refine WX.box rfl rfl rfl (fun _ => ?_)) | (refine I.al ?_; refine WX.alloc rfl (fun _ => ?_)) | (refine I.ex ?_; refine WX.extract rfl rfl rfl ?_))
  · exact D.fin1 [_] _ rfl rfl ⟨by simp [*], rfl⟩
  · exact D.fin1 [_] _ rfl rfl ⟨by simp [*], rfl⟩

theorem heard_ct {b : Nat} {xs is : List Int} {u : Value} {h hi : Hp} (hw : WAt 92 b xs h) (hs : Rs is u hi) (hb : is.length ≤ 1000000) :
    Ct Try.prog 18 [.pointer (some ⟨b, 0, none⟩), u] [h, hi] (fun v H' => v = .tuple #[] ∧ ∃ h', H' = [h', hi] ∧ WAt 92 b (heardL xs is) h') := by
  refine Ct.mk' Try.func18 rfl rfl rfl (fun g R => ?_)
  try simp only [List.cons_append]
  simp only [List.nil_append]
  repeat' (first
  | refine W.seq ?_ | refine W.region ?_ | refine WX.nil ?_ | refine D.seq ?_ | refine W.block ?_ | refine D.blk ?_ | refine W.skip ?_ | refine W.exit ?_ | refine W.ret ?_
  | refine WM.nil ?_ | refine WM.un ?_ | refine WM.an ?_ | refine WM.backU ?_ | refine WM.back ?_
  | refine D.blkX ?_ | refine D.blkY rfl ?_ | refine D.roundX ?_ | refine D.roundR ?_ | refine D.blkR ?_
  | (refine I.gd ?_; first | refine WX.gy rfl rfl ?_ | refine WX.gn rfl rfl rfl rfl ?_ | refine WX.gnN rfl rfl rfl ?_ | refine WX.gT rfl rfl (by first | assumption | omega) ?_ | refine WX.gF rfl rfl (by first | assumption | omega) ?_ | refine WX.gS rfl rfl (fun _ => ?_) (fun _ => ?_))
  | (refine I.cond ?_; first | refine W.condT rfl ?_ | refine W.condF rfl ?_ | refine W.condP rfl (by first | assumption | omega) ?_ | refine W.condN rfl (by first | assumption | omega) ?_)
  | (refine I.mv ?_; refine WX.move rfl rfl ?_) | (refine I.as ?_; refine WX.assign rfl rfl ?_)
  | (refine I.nc ?_; first | refine WX.nilCheck rfl rfl ?_ | refine WX.nilE rfl (by assumption) (by assumption) rfl ?_)
  | (refine I.fa ?_; first | refine WX.fieldAddr rfl rfl ?_ | refine WX.fieldE rfl (by assumption) (by assumption) rfl ?_)
  | (refine I.ld ?_; first | refine WX.load rfl rfl rfl ?_ | refine WX.loadE rfl (by assumption) (by assumption) rfl rfl rfl ?_ | refine WX.loadA rfl rfl rfl rfl ?_)
  | (refine I.bin ?_; first | refine WX.lss rfl rfl rfl ?_ | refine WX.eql rfl rfl rfl ?_ | refine WX.neq rfl rfl rfl ?_ | refine WX.leq rfl rfl rfl ?_ | refine WX.gtr rfl rfl rfl ?_ | refine WX.geq rfl rfl rfl ?_ | refine WX.add rfl rfl rfl (by omega) ?_ | refine WX.sub' rfl rfl rfl (by omega) ?_ | refine WX.eqPN rfl rfl rfl ?_ | refine WX.nePN rfl rfl rfl ?_ | refine WX.eqNN rfl rfl rfl ?_ | refine WX.neNN rfl rfl rfl ?_)
  | (refine I.un ?_; first | refine WX.notD rfl rfl ?_ | refine WX.not rfl rfl ?_)
  | (refine I.pk ?_; first | refine WX.pickT rfl rfl rfl ?_ | refine WX.pickF rfl rfl rfl ?_)
  | (refine I.bi ?_; first | refine WX.lenSl rfl (by assumption) rfl ?_ | refine WX.len rfl rfl ?_ | refine WX.lenS rfl rfl ?_ | refine WX.min rfl rfl rfl ?_ | refine WX.max rfl rfl rfl ?_)
  | (refine I.ix ?_; first | refine WX.idx rfl rfl (by assumption) (by assumption) rfl ?_ | refine WX.idxI rfl rfl (by assumption) (by omega) (by assumption) rfl ?_)
  | (refine I.sl ?_; refine WX.slTo rfl rfl (by assumption) (by omega) rfl ?_)
  | (refine I.st ?_; first | (refine WX.store rfl rfl rfl rfl ?_; try simp only [List.set_cons_zero, List.set_cons_succ, Nat.reduceAdd]) | (refine WX.storeG rfl rfl rfl rfl rfl rfl ?_; try simp only [setAt, List.set_cons_zero, List.set_cons_succ, Nat.reduceAdd]))
  | (refine I.bd ?_; refine WX.build rfl rfl rfl ?_; try simp only [setAt, Value.cells, List.set_cons_zero, List.set_cons_succ]) | (refine I.bx ?_; refine WX.box rfl rfl rfl (fun _ => ?_)) | (refine I.al ?_; refine WX.alloc rfl (fun _ => ?_)) | (refine I.ex ?_; refine WX.extract rfl rfl rfl ?_))
  refine W.loop (α := Nat × Hp) (fun x => x.1 ≤ is.length ∧ WAt 92 b (heardL xs (is.take x.1)) x.2)
    (fun x => [(0, .pointer (some ⟨b, 0, none⟩)), (6, u), (7, .int .i64 is.length), (8, .int .i64 (x.1 : Int))]) (fun x => [x.2, hi, R]) (fun x => is.length - x.1) (0, h) ⟨by omega, by simpa [heardL] using hw⟩ (by repeat (first | exact Fsub.nil | refine Fsub.cons rfl ?_)) (Hsub.of_picks inferInstance) ?_
  rintro ⟨k, h'⟩ ⟨hk, hw'⟩
  simp only []
  by_cases hlt : k < is.length
  · obtain ⟨i, hki⟩ : ∃ i, is[k]? = some i := ⟨_, List.getElem?_eq_getElem hlt⟩
    repeat' (first
  | refine W.seq ?_ | refine W.region ?_ | refine WX.nil ?_ | refine D.seq ?_ | refine W.block ?_ | refine D.blk ?_ | refine W.skip ?_ | refine W.exit ?_ | refine W.ret ?_
  | refine WM.nil ?_ | refine WM.un ?_ | refine WM.an ?_ | refine WM.backU ?_ | refine WM.back ?_
  | refine D.blkX ?_ | refine D.blkY rfl ?_ | refine D.roundX ?_ | refine D.roundR ?_ | refine D.blkR ?_
  | (refine I.gd ?_; first | refine WX.gy rfl rfl ?_ | refine WX.gn rfl rfl rfl rfl ?_ | refine WX.gnN rfl rfl rfl ?_ | refine WX.gT rfl rfl (by first | assumption | omega) ?_ | refine WX.gF rfl rfl (by first | assumption | omega) ?_ | refine WX.gS rfl rfl (fun _ => ?_) (fun _ => ?_))
  | (refine I.cond ?_; first | refine W.condT rfl ?_ | refine W.condF rfl ?_ | refine W.condP rfl (by first | assumption | omega) ?_ | refine W.condN rfl (by first | assumption | omega) ?_)
  | (refine I.mv ?_; refine WX.move rfl rfl ?_) | (refine I.as ?_; refine WX.assign rfl rfl ?_)
  | (refine I.nc ?_; first | refine WX.nilCheck rfl rfl ?_ | refine WX.nilE rfl (by assumption) (by assumption) rfl ?_)
  | (refine I.fa ?_; first | refine WX.fieldAddr rfl rfl ?_ | refine WX.fieldE rfl (by assumption) (by assumption) rfl ?_)
  | (refine I.ld ?_; first | refine WX.load rfl rfl rfl ?_ | refine WX.loadE rfl (by assumption) (by assumption) rfl rfl rfl ?_ | refine WX.loadA rfl rfl rfl rfl ?_)
  | (refine I.bin ?_; first | refine WX.lss rfl rfl rfl ?_ | refine WX.eql rfl rfl rfl ?_ | refine WX.neq rfl rfl rfl ?_ | refine WX.leq rfl rfl rfl ?_ | refine WX.gtr rfl rfl rfl ?_ | refine WX.geq rfl rfl rfl ?_ | refine WX.add rfl rfl rfl (by omega) ?_ | refine WX.sub' rfl rfl rfl (by omega) ?_ | refine WX.eqPN rfl rfl rfl ?_ | refine WX.nePN rfl rfl rfl ?_ | refine WX.eqNN rfl rfl rfl ?_ | refine WX.neNN rfl rfl rfl ?_)
  | (refine I.un ?_; first | refine WX.notD rfl rfl ?_ | refine WX.not rfl rfl ?_)
  | (refine I.pk ?_; first | refine WX.pickT rfl rfl rfl ?_ | refine WX.pickF rfl rfl rfl ?_)
  | (refine I.bi ?_; first | refine WX.lenSl rfl (by assumption) rfl ?_ | refine WX.len rfl rfl ?_ | refine WX.lenS rfl rfl ?_ | refine WX.min rfl rfl rfl ?_ | refine WX.max rfl rfl rfl ?_)
  | (refine I.ix ?_; first | refine WX.idx rfl rfl (by assumption) (by assumption) rfl ?_ | refine WX.idxI rfl rfl (by assumption) (by omega) (by assumption) rfl ?_)
  | (refine I.sl ?_; refine WX.slTo rfl rfl (by assumption) (by omega) rfl ?_)
  | (refine I.st ?_; first | (refine WX.store rfl rfl rfl rfl ?_; try simp only [List.set_cons_zero, List.set_cons_succ, Nat.reduceAdd]) | (refine WX.storeG rfl rfl rfl rfl rfl rfl ?_; try simp only [setAt, List.set_cons_zero, List.set_cons_succ, Nat.reduceAdd]))
  | (refine I.bd ?_; refine WX.build rfl rfl rfl ?_; try simp only [setAt, Value.cells, List.set_cons_zero, List.set_cons_succ]) | (refine I.bx ?_; refine WX.box rfl rfl rfl (fun _ => ?_)) | (refine I.al ?_; refine WX.alloc rfl (fun _ => ?_)) | (refine I.ex ?_; refine WX.extract rfl rfl rfl ?_))
    refine WX.callQ rfl (has_ct hw' i) rfl ?_
    obtain ⟨v, hv, rfl, hs'⟩ := hw'
    have hr' := hs'.rs
    by_cases hc : 0 ≤ i ∧ i < (heardL xs (is.take k)).length
    · obtain ⟨h0, h1⟩ := hc
      obtain ⟨y, hy⟩ : ∃ y, (heardL xs (is.take k))[i.toNat]? = some y := ⟨_, List.getElem?_eq_getElem (by omega)⟩
      have hc : 0 ≤ i ∧ i < (heardL xs (is.take k)).length := ⟨h0, h1⟩
      repeat' (first
  | refine W.seq ?_ | refine W.region ?_ | refine WX.nil ?_ | refine D.seq ?_ | refine W.block ?_ | refine D.blk ?_ | refine W.skip ?_ | refine W.exit ?_ | refine W.ret ?_
  | refine WM.nil ?_ | refine WM.un ?_ | refine WM.an ?_ | refine WM.backU ?_ | refine WM.back ?_
  | refine D.blkX ?_ | refine D.blkY rfl ?_ | refine D.roundX ?_ | refine D.roundR ?_ | refine D.blkR ?_
  | (refine I.gd ?_; first | refine WX.gy rfl rfl ?_ | refine WX.gn rfl rfl rfl rfl ?_ | refine WX.gnN rfl rfl rfl ?_ | refine WX.gT rfl rfl (by first | assumption | omega) ?_ | refine WX.gF rfl rfl (by first | assumption | omega) ?_ | refine WX.gS rfl rfl (fun _ => ?_) (fun _ => ?_))
  | (refine I.cond ?_; first | refine W.condT rfl ?_ | refine W.condF rfl ?_ | refine W.condP rfl (by first | assumption | omega) ?_ | refine W.condN rfl (by first | assumption | omega) ?_)
  | (refine I.mv ?_; refine WX.move rfl rfl ?_) | (refine I.as ?_; refine WX.assign rfl rfl ?_)
  | (refine I.nc ?_; first | refine WX.nilCheck rfl rfl ?_ | refine WX.nilE rfl (by assumption) (by assumption) rfl ?_)
  | (refine I.fa ?_; first | refine WX.fieldAddr rfl rfl ?_ | refine WX.fieldE rfl (by assumption) (by assumption) rfl ?_)
  | (refine I.ld ?_; first | refine WX.load rfl rfl rfl ?_ | refine WX.loadE rfl (by assumption) (by assumption) rfl rfl rfl ?_ | refine WX.loadA rfl rfl rfl rfl ?_)
  | (refine I.bin ?_; first | refine WX.lss rfl rfl rfl ?_ | refine WX.eql rfl rfl rfl ?_ | refine WX.neq rfl rfl rfl ?_ | refine WX.leq rfl rfl rfl ?_ | refine WX.gtr rfl rfl rfl ?_ | refine WX.geq rfl rfl rfl ?_ | refine WX.add rfl rfl rfl (by omega) ?_ | refine WX.sub' rfl rfl rfl (by omega) ?_ | refine WX.eqPN rfl rfl rfl ?_ | refine WX.nePN rfl rfl rfl ?_ | refine WX.eqNN rfl rfl rfl ?_ | refine WX.neNN rfl rfl rfl ?_)
  | (refine I.un ?_; first | refine WX.notD rfl rfl ?_ | refine WX.not rfl rfl ?_)
  | (refine I.pk ?_; first | refine WX.pickT rfl rfl rfl ?_ | refine WX.pickF rfl rfl rfl ?_)
  | (refine I.bi ?_; first | refine WX.lenSl rfl (by assumption) rfl ?_ | refine WX.len rfl rfl ?_ | refine WX.lenS rfl rfl ?_ | refine WX.min rfl rfl rfl ?_ | refine WX.max rfl rfl rfl ?_)
  | (refine I.ix ?_; first | refine WX.idx rfl rfl (by assumption) (by assumption) rfl ?_ | refine WX.idxI rfl rfl (by assumption) (by omega) (by assumption) rfl ?_)
  | (refine I.sl ?_; refine WX.slTo rfl rfl (by assumption) (by omega) rfl ?_)
  | (refine I.st ?_; first | (refine WX.store rfl rfl rfl rfl ?_; try simp only [List.set_cons_zero, List.set_cons_succ, Nat.reduceAdd]) | (refine WX.storeG rfl rfl rfl rfl rfl rfl ?_; try simp only [setAt, List.set_cons_zero, List.set_cons_succ, Nat.reduceAdd]))
  | (refine I.bd ?_; refine WX.build rfl rfl rfl ?_; try simp only [setAt, Value.cells, List.set_cons_zero, List.set_cons_succ]) | (refine I.bx ?_; refine WX.box rfl rfl rfl (fun _ => ?_)) | (refine I.al ?_; refine WX.alloc rfl (fun _ => ?_)) | (refine I.ex ?_; refine WX.extract rfl rfl rfl ?_))
      refine WX.storeE (y' := 0) rfl rfl rfl hs' hy rfl rfl rfl rfl rfl (fun h2 hs2 => ?_)
      repeat' (first
  | refine W.seq ?_ | refine W.region ?_ | refine WX.nil ?_ | refine D.seq ?_ | refine W.block ?_ | refine D.blk ?_ | refine W.skip ?_ | refine W.exit ?_ | refine W.ret ?_
  | refine WM.nil ?_ | refine WM.un ?_ | refine WM.an ?_ | refine WM.backU ?_ | refine WM.back ?_
  | refine D.blkX ?_ | refine D.blkY rfl ?_ | refine D.roundX ?_ | refine D.roundR ?_ | refine D.blkR ?_
  | (refine I.gd ?_; first | refine WX.gy rfl rfl ?_ | refine WX.gn rfl rfl rfl rfl ?_ | refine WX.gnN rfl rfl rfl ?_ | refine WX.gT rfl rfl (by first | assumption | omega) ?_ | refine WX.gF rfl rfl (by first | assumption | omega) ?_ | refine WX.gS rfl rfl (fun _ => ?_) (fun _ => ?_))
  | (refine I.cond ?_; first | refine W.condT rfl ?_ | refine W.condF rfl ?_ | refine W.condP rfl (by first | assumption | omega) ?_ | refine W.condN rfl (by first | assumption | omega) ?_)
  | (refine I.mv ?_; refine WX.move rfl rfl ?_) | (refine I.as ?_; refine WX.assign rfl rfl ?_)
  | (refine I.nc ?_; first | refine WX.nilCheck rfl rfl ?_ | refine WX.nilE rfl (by assumption) (by assumption) rfl ?_)
  | (refine I.fa ?_; first | refine WX.fieldAddr rfl rfl ?_ | refine WX.fieldE rfl (by assumption) (by assumption) rfl ?_)
  | (refine I.ld ?_; first | refine WX.load rfl rfl rfl ?_ | refine WX.loadE rfl (by assumption) (by assumption) rfl rfl rfl ?_ | refine WX.loadA rfl rfl rfl rfl ?_)
  | (refine I.bin ?_; first | refine WX.lss rfl rfl rfl ?_ | refine WX.eql rfl rfl rfl ?_ | refine WX.neq rfl rfl rfl ?_ | refine WX.leq rfl rfl rfl ?_ | refine WX.gtr rfl rfl rfl ?_ | refine WX.geq rfl rfl rfl ?_ | refine WX.add rfl rfl rfl (by omega) ?_ | refine WX.sub' rfl rfl rfl (by omega) ?_ | refine WX.eqPN rfl rfl rfl ?_ | refine WX.nePN rfl rfl rfl ?_ | refine WX.eqNN rfl rfl rfl ?_ | refine WX.neNN rfl rfl rfl ?_)
  | (refine I.un ?_; first | refine WX.notD rfl rfl ?_ | refine WX.not rfl rfl ?_)
  | (refine I.pk ?_; first | refine WX.pickT rfl rfl rfl ?_ | refine WX.pickF rfl rfl rfl ?_)
  | (refine I.bi ?_; first | refine WX.lenSl rfl (by assumption) rfl ?_ | refine WX.len rfl rfl ?_ | refine WX.lenS rfl rfl ?_ | refine WX.min rfl rfl rfl ?_ | refine WX.max rfl rfl rfl ?_)
  | (refine I.ix ?_; first | refine WX.idx rfl rfl (by assumption) (by assumption) rfl ?_ | refine WX.idxI rfl rfl (by assumption) (by omega) (by assumption) rfl ?_)
  | (refine I.sl ?_; refine WX.slTo rfl rfl (by assumption) (by omega) rfl ?_)
  | (refine I.st ?_; first | (refine WX.store rfl rfl rfl rfl ?_; try simp only [List.set_cons_zero, List.set_cons_succ, Nat.reduceAdd]) | (refine WX.storeG rfl rfl rfl rfl rfl rfl ?_; try simp only [setAt, List.set_cons_zero, List.set_cons_succ, Nat.reduceAdd]))
  | (refine I.bd ?_; refine WX.build rfl rfl rfl ?_; try simp only [setAt, Value.cells, List.set_cons_zero, List.set_cons_succ]) | (refine I.bx ?_; refine WX.box rfl rfl rfl (fun _ => ?_)) | (refine I.al ?_; refine WX.alloc rfl (fun _ => ?_)) | (refine I.ex ?_; refine WX.extract rfl rfl rfl ?_))
      refine D.round (k + 1, (b, .cells (List.toArray [v]) 92 (0, 0)) :: h2) ⟨by simp only []; omega, ?_⟩ (by simp only []; omega) (by repeat (first | exact Fsub.nil | refine Fsub.cons rfl ?_)) (Hsub.of_picks inferInstance)
      simp only []
      rw [heardL_snoc hki, heard1, if_pos hc]
      exact ⟨_, _, rfl, hs2⟩
    · repeat' (first
  | refine W.seq ?_ | refine W.region ?_ | refine WX.nil ?_ | refine D.seq ?_ | refine W.block ?_ | refine D.blk ?_ | refine W.skip ?_ | refine W.exit ?_ | refine W.ret ?_
  | refine WM.nil ?_ | refine WM.un ?_ | refine WM.an ?_ | refine WM.backU ?_ | refine WM.back ?_
  | refine D.blkX ?_ | refine D.blkY rfl ?_ | refine D.roundX ?_ | refine D.roundR ?_ | refine D.blkR ?_
  | (refine I.gd ?_; first | refine WX.gy rfl rfl ?_ | refine WX.gn rfl rfl rfl rfl ?_ | refine WX.gnN rfl rfl rfl ?_ | refine WX.gT rfl rfl (by first | assumption | omega) ?_ | refine WX.gF rfl rfl (by first | assumption | omega) ?_ | refine WX.gS rfl rfl (fun _ => ?_) (fun _ => ?_))
  | (refine I.cond ?_; first | refine W.condT rfl ?_ | refine W.condF rfl ?_ | refine W.condP rfl (by first | assumption | omega) ?_ | refine W.condN rfl (by first | assumption | omega) ?_)
  | (refine I.mv ?_; refine WX.move rfl rfl ?_) | (refine I.as ?_; refine WX.assign rfl rfl ?_)
  | (refine I.nc ?_; first | refine WX.nilCheck rfl rfl ?_ | refine WX.nilE rfl (by assumption) (by assumption) rfl ?_)
  | (refine I.fa ?_; first | refine WX.fieldAddr rfl rfl ?_ | refine WX.fieldE rfl (by assumption) (by assumption) rfl ?_)
  | (refine I.ld ?_; first | refine WX.load rfl rfl rfl ?_ | refine WX.loadE rfl (by assumption) (by assumption) rfl rfl rfl ?_ | refine WX.loadA rfl rfl rfl rfl ?_)
  | (refine I.bin ?_; first | refine WX.lss rfl rfl rfl ?_ | refine WX.eql rfl rfl rfl ?_ | refine WX.neq rfl rfl rfl ?_ | refine WX.leq rfl rfl rfl ?_ | refine WX.gtr rfl rfl rfl ?_ | refine WX.geq rfl rfl rfl ?_ | refine WX.add rfl rfl rfl (by omega) ?_ | refine WX.sub' rfl rfl rfl (by omega) ?_ | refine WX.eqPN rfl rfl rfl ?_ | refine WX.nePN rfl rfl rfl ?_ | refine WX.eqNN rfl rfl rfl ?_ | refine WX.neNN rfl rfl rfl ?_)
  | (refine I.un ?_; first | refine WX.notD rfl rfl ?_ | refine WX.not rfl rfl ?_)
  | (refine I.pk ?_; first | refine WX.pickT rfl rfl rfl ?_ | refine WX.pickF rfl rfl rfl ?_)
  | (refine I.bi ?_; first | refine WX.lenSl rfl (by assumption) rfl ?_ | refine WX.len rfl rfl ?_ | refine WX.lenS rfl rfl ?_ | refine WX.min rfl rfl rfl ?_ | refine WX.max rfl rfl rfl ?_)
  | (refine I.ix ?_; first | refine WX.idx rfl rfl (by assumption) (by assumption) rfl ?_ | refine WX.idxI rfl rfl (by assumption) (by omega) (by assumption) rfl ?_)
  | (refine I.sl ?_; refine WX.slTo rfl rfl (by assumption) (by omega) rfl ?_)
  | (refine I.st ?_; first | (refine WX.store rfl rfl rfl rfl ?_; try simp only [List.set_cons_zero, List.set_cons_succ, Nat.reduceAdd]) | (refine WX.storeG rfl rfl rfl rfl rfl rfl ?_; try simp only [setAt, List.set_cons_zero, List.set_cons_succ, Nat.reduceAdd]))
  | (refine I.bd ?_; refine WX.build rfl rfl rfl ?_; try simp only [setAt, Value.cells, List.set_cons_zero, List.set_cons_succ]) | (refine I.bx ?_; refine WX.box rfl rfl rfl (fun _ => ?_)) | (refine I.al ?_; refine WX.alloc rfl (fun _ => ?_)) | (refine I.ex ?_; refine WX.extract rfl rfl rfl ?_))
      refine D.round (k + 1, (b, .cells (List.toArray [v]) 92 (0, 0)) :: hv) ⟨by simp only []; omega, ?_⟩ (by simp only []; omega) (by repeat (first | exact Fsub.nil | refine Fsub.cons rfl ?_)) (Hsub.of_picks inferInstance)
      simp only []
      rw [heardL_snoc hki, heard1, if_neg hc]
      exact ⟨_, _, rfl, hs'⟩
  · repeat' (first
  | refine W.seq ?_ | refine W.region ?_ | refine WX.nil ?_ | refine D.seq ?_ | refine W.block ?_ | refine D.blk ?_ | refine W.skip ?_ | refine W.exit ?_ | refine W.ret ?_
  | refine WM.nil ?_ | refine WM.un ?_ | refine WM.an ?_ | refine WM.backU ?_ | refine WM.back ?_
  | refine D.blkX ?_ | refine D.blkY rfl ?_ | refine D.roundX ?_ | refine D.roundR ?_ | refine D.blkR ?_
  | (refine I.gd ?_; first | refine WX.gy rfl rfl ?_ | refine WX.gn rfl rfl rfl rfl ?_ | refine WX.gnN rfl rfl rfl ?_ | refine WX.gT rfl rfl (by first | assumption | omega) ?_ | refine WX.gF rfl rfl (by first | assumption | omega) ?_ | refine WX.gS rfl rfl (fun _ => ?_) (fun _ => ?_))
  | (refine I.cond ?_; first | refine W.condT rfl ?_ | refine W.condF rfl ?_ | refine W.condP rfl (by first | assumption | omega) ?_ | refine W.condN rfl (by first | assumption | omega) ?_)
  | (refine I.mv ?_; refine WX.move rfl rfl ?_) | (refine I.as ?_; refine WX.assign rfl rfl ?_)
  | (refine I.nc ?_; first | refine WX.nilCheck rfl rfl ?_ | refine WX.nilE rfl (by assumption) (by assumption) rfl ?_)
  | (refine I.fa ?_; first | refine WX.fieldAddr rfl rfl ?_ | refine WX.fieldE rfl (by assumption) (by assumption) rfl ?_)
  | (refine I.ld ?_; first | refine WX.load rfl rfl rfl ?_ | refine WX.loadE rfl (by assumption) (by assumption) rfl rfl rfl ?_ | refine WX.loadA rfl rfl rfl rfl ?_)
  | (refine I.bin ?_; first | refine WX.lss rfl rfl rfl ?_ | refine WX.eql rfl rfl rfl ?_ | refine WX.neq rfl rfl rfl ?_ | refine WX.leq rfl rfl rfl ?_ | refine WX.gtr rfl rfl rfl ?_ | refine WX.geq rfl rfl rfl ?_ | refine WX.add rfl rfl rfl (by omega) ?_ | refine WX.sub' rfl rfl rfl (by omega) ?_ | refine WX.eqPN rfl rfl rfl ?_ | refine WX.nePN rfl rfl rfl ?_ | refine WX.eqNN rfl rfl rfl ?_ | refine WX.neNN rfl rfl rfl ?_)
  | (refine I.un ?_; first | refine WX.notD rfl rfl ?_ | refine WX.not rfl rfl ?_)
  | (refine I.pk ?_; first | refine WX.pickT rfl rfl rfl ?_ | refine WX.pickF rfl rfl rfl ?_)
  | (refine I.bi ?_; first | refine WX.lenSl rfl (by assumption) rfl ?_ | refine WX.len rfl rfl ?_ | refine WX.lenS rfl rfl ?_ | refine WX.min rfl rfl rfl ?_ | refine WX.max rfl rfl rfl ?_)
  | (refine I.ix ?_; first | refine WX.idx rfl rfl (by assumption) (by assumption) rfl ?_ | refine WX.idxI rfl rfl (by assumption) (by omega) (by assumption) rfl ?_)
  | (refine I.sl ?_; refine WX.slTo rfl rfl (by assumption) (by omega) rfl ?_)
  | (refine I.st ?_; first | (refine WX.store rfl rfl rfl rfl ?_; try simp only [List.set_cons_zero, List.set_cons_succ, Nat.reduceAdd]) | (refine WX.storeG rfl rfl rfl rfl rfl rfl ?_; try simp only [setAt, List.set_cons_zero, List.set_cons_succ, Nat.reduceAdd]))
  | (refine I.bd ?_; refine WX.build rfl rfl rfl ?_; try simp only [setAt, Value.cells, List.set_cons_zero, List.set_cons_succ]) | (refine I.bx ?_; refine WX.box rfl rfl rfl (fun _ => ?_)) | (refine I.al ?_; refine WX.alloc rfl (fun _ => ?_)) | (refine I.ex ?_; refine WX.extract rfl rfl rfl ?_))
    obtain rfl : k = is.length := by simp only [] at hk; omega
    exact D.finE [_, _] _ rfl ⟨rfl, _, rfl, by simpa using hw'⟩

/-- The first k elements are turned by f. -/
def mapTo (f : Int → Int) (xs : List Int) (k : Nat) : List Int := (xs.take k).map f ++ xs.drop k
theorem mapTo_len (f : Int → Int) (xs : List Int) (k : Nat) : (mapTo f xs k).length = xs.length := by simp [mapTo]; omega
theorem mapTo_get {f : Int → Int} {xs : List Int} {k : Nat} {x : Int} (h : xs[k]? = some x) : (mapTo f xs k)[k]? = some x := by
  have hlt := (List.getElem?_eq_some_iff.1 h).1
  rw [mapTo, List.getElem?_append_right (by simp; omega)]
  simp [Nat.min_eq_left (Nat.le_of_lt hlt), h]
theorem mapTo_set {f : Int → Int} {xs : List Int} {k : Nat} {x : Int} (h : xs[k]? = some x) : (mapTo f xs k).set k (f x) = mapTo f xs (k + 1) := by
  have hlt := (List.getElem?_eq_some_iff.1 h).1
  have hx := (List.getElem?_eq_some_iff.1 h).2
  have hl : ((xs.take k).map f).length = k := by simp; omega
  rw [mapTo, mapTo, List.take_add_one, h, List.set_append_right _ _ (by omega), hl, Nat.sub_self, List.drop_eq_getElem_cons hlt, hx]
  simp only [List.set_cons_zero, List.map_append, Option.toList, List.map_cons, List.map_nil, List.append_assoc, List.cons_append, List.nil_append]
theorem mapTo_all (f : Int → Int) (xs : List Int) : mapTo f xs xs.length = xs.map f := by simp [mapTo]

def Wok (xs : List Int) : Prop := xs.length ≤ 64 ∧ ∀ s ∈ xs, 0 ≤ s ∧ s ≤ 1099511627776
theorem Wok.tick {xs : List Int} (h : Wok xs) : Wok (tickL xs) := ⟨by simpa [tickL] using h.1, fun s hs => by
  obtain ⟨x, hx, rfl⟩ := List.mem_map.1 hs
  have := h.2 x hx
  unfold tick1; split <;> omega⟩
theorem Wok.heard {xs : List Int} (h : Wok xs) (is : List Int) : Wok (heardL xs is) := by
  refine ⟨by rw [heardL_len]; exact h.1, ?_⟩
  unfold heardL
  have key : ∀ (is xs : List Int), (∀ s ∈ xs, 0 ≤ s ∧ s ≤ 1099511627776) → ∀ s ∈ is.foldl heard1 xs, 0 ≤ s ∧ s ≤ 1099511627776 := by
    intro is
    induction is with
    | nil => intro xs h; exact h
    | cons i r ih =>
      intro xs h
      refine ih _ fun s hs => ?_
      unfold heard1 at hs
      split at hs
      · rcases List.mem_or_eq_of_mem_set hs with h1 | h1
        · exact h s h1
        · omega
      · exact h s hs
  exact key is xs h.2

theorem tick_ct {b : Nat} {xs : List Int} {h : Hp} (hw : WAt 92 b xs h) (ok : Wok xs) :
    Ct Try.prog 16 [.pointer (some ⟨b, 0, none⟩)] [h] (fun v H' => v = .tuple #[] ∧ ∃ h', H' = [h'] ∧ WAt 92 b (tickL xs) h') := by
  obtain ⟨v, hv, rfl, hs⟩ := hw
  have hr := hs.rs
  have hl := ok.1
  refine Ct.mk' Try.func16 rfl rfl rfl (fun g R => ?_)
  try simp only [List.cons_append]
  simp only [List.nil_append]
  repeat' (first
  | refine W.seq ?_ | refine W.region ?_ | refine WX.nil ?_ | refine D.seq ?_ | refine W.block ?_ | refine D.blk ?_ | refine W.skip ?_ | refine W.exit ?_ | refine W.ret ?_
  | refine WM.nil ?_ | refine WM.un ?_ | refine WM.an ?_ | refine WM.backU ?_ | refine WM.back ?_
  | refine D.blkX ?_ | refine D.blkY rfl ?_ | refine D.roundX ?_ | refine D.roundR ?_ | refine D.blkR ?_
  | (refine I.gd ?_; first | refine WX.gy rfl rfl ?_ | refine WX.gn rfl rfl rfl rfl ?_ | refine WX.gnN rfl rfl rfl ?_ | refine WX.gT rfl rfl (by first | assumption | omega) ?_ | refine WX.gF rfl rfl (by first | assumption | omega) ?_ | refine WX.gS rfl rfl (fun _ => ?_) (fun _ => ?_))
  | (refine I.cond ?_; first | refine W.condT rfl ?_ | refine W.condF rfl ?_ | refine W.condP rfl (by first | assumption | omega) ?_ | refine W.condN rfl (by first | assumption | omega) ?_)
  | (refine I.mv ?_; refine WX.move rfl rfl ?_) | (refine I.as ?_; refine WX.assign rfl rfl ?_)
  | (refine I.nc ?_; first | refine WX.nilCheck rfl rfl ?_ | refine WX.nilE rfl (by assumption) (by assumption) rfl ?_)
  | (refine I.fa ?_; first | refine WX.fieldAddr rfl rfl ?_ | refine WX.fieldE rfl (by assumption) (by assumption) rfl ?_)
  | (refine I.ld ?_; first | refine WX.load rfl rfl rfl ?_ | refine WX.loadE rfl (by assumption) (by assumption) rfl rfl rfl ?_ | refine WX.loadA rfl rfl rfl rfl ?_)
  | (refine I.bin ?_; first | refine WX.lss rfl rfl rfl ?_ | refine WX.eql rfl rfl rfl ?_ | refine WX.neq rfl rfl rfl ?_ | refine WX.leq rfl rfl rfl ?_ | refine WX.gtr rfl rfl rfl ?_ | refine WX.geq rfl rfl rfl ?_ | refine WX.add rfl rfl rfl (by omega) ?_ | refine WX.sub' rfl rfl rfl (by omega) ?_ | refine WX.eqPN rfl rfl rfl ?_ | refine WX.nePN rfl rfl rfl ?_ | refine WX.eqNN rfl rfl rfl ?_ | refine WX.neNN rfl rfl rfl ?_)
  | (refine I.un ?_; first | refine WX.notD rfl rfl ?_ | refine WX.not rfl rfl ?_)
  | (refine I.pk ?_; first | refine WX.pickT rfl rfl rfl ?_ | refine WX.pickF rfl rfl rfl ?_)
  | (refine I.bi ?_; first | refine WX.lenSl rfl (by assumption) rfl ?_ | refine WX.len rfl rfl ?_ | refine WX.lenS rfl rfl ?_ | refine WX.min rfl rfl rfl ?_ | refine WX.max rfl rfl rfl ?_)
  | (refine I.ix ?_; first | refine WX.idx rfl rfl (by assumption) (by assumption) rfl ?_ | refine WX.idxI rfl rfl (by assumption) (by omega) (by assumption) rfl ?_)
  | (refine I.sl ?_; refine WX.slTo rfl rfl (by assumption) (by omega) rfl ?_)
  | (refine I.st ?_; first | (refine WX.store rfl rfl rfl rfl ?_; try simp only [List.set_cons_zero, List.set_cons_succ, Nat.reduceAdd]) | (refine WX.storeG rfl rfl rfl rfl rfl rfl ?_; try simp only [setAt, List.set_cons_zero, List.set_cons_succ, Nat.reduceAdd]))
  | (refine I.bd ?_; refine WX.build rfl rfl rfl ?_; try simp only [setAt, Value.cells, List.set_cons_zero, List.set_cons_succ]) | (refine I.bx ?_; refine WX.box rfl rfl rfl (fun _ => ?_)) | (refine I.al ?_; refine WX.alloc rfl (fun _ => ?_)) | (refine I.ex ?_; refine WX.extract rfl rfl rfl ?_))
  refine W.loop (α := Nat × Hp) (fun x => x.1 ≤ xs.length ∧ IsSl 3 (mapTo tick1 xs x.1) v x.2)
    (fun x => [(0, .pointer (some ⟨b, 0, none⟩)), (7, .int .i64 xs.length), (8, .int .i64 (x.1 : Int))]) (fun x => [[(b, .cells (List.toArray [v]) 92 (0, 0))], x.2, R]) (fun x => xs.length - x.1) (0, hv) ⟨by omega, by simpa [mapTo] using hs⟩ (by repeat (first | exact Fsub.nil | refine Fsub.cons rfl ?_)) (Hsub.of_picks inferInstance) ?_
  rintro ⟨k, h'⟩ ⟨hk, hw'⟩
  clear hr
  simp only [] at hk hw' ⊢
  have hr' := hw'.rs
  by_cases hlt : k < xs.length
  · obtain ⟨x, hx⟩ : ∃ x, xs[k]? = some x := ⟨_, List.getElem?_eq_getElem hlt⟩
    have hx' := mapTo_get (f := tick1) hx
    have hb := ok.2 x (List.mem_of_getElem? hx)
    repeat' (first
  | refine W.seq ?_ | refine W.region ?_ | refine WX.nil ?_ | refine D.seq ?_ | refine W.block ?_ | refine D.blk ?_ | refine W.skip ?_ | refine W.exit ?_ | refine W.ret ?_
  | refine WM.nil ?_ | refine WM.un ?_ | refine WM.an ?_ | refine WM.backU ?_ | refine WM.back ?_
  | refine D.blkX ?_ | refine D.blkY rfl ?_ | refine D.roundX ?_ | refine D.roundR ?_ | refine D.blkR ?_
  | (refine I.gd ?_; first | refine WX.gy rfl rfl ?_ | refine WX.gn rfl rfl rfl rfl ?_ | refine WX.gnN rfl rfl rfl ?_ | refine WX.gT rfl rfl (by first | assumption | omega) ?_ | refine WX.gF rfl rfl (by first | assumption | omega) ?_ | refine WX.gS rfl rfl (fun _ => ?_) (fun _ => ?_))
  | (refine I.cond ?_; first | refine W.condT rfl ?_ | refine W.condF rfl ?_ | refine W.condP rfl (by first | assumption | omega) ?_ | refine W.condN rfl (by first | assumption | omega) ?_)
  | (refine I.mv ?_; refine WX.move rfl rfl ?_) | (refine I.as ?_; refine WX.assign rfl rfl ?_)
  | (refine I.nc ?_; first | refine WX.nilCheck rfl rfl ?_ | refine WX.nilE rfl (by assumption) (by assumption) rfl ?_)
  | (refine I.fa ?_; first | refine WX.fieldAddr rfl rfl ?_ | refine WX.fieldE rfl (by assumption) (by assumption) rfl ?_)
  | (refine I.ld ?_; first | refine WX.load rfl rfl rfl ?_ | refine WX.loadE rfl (by assumption) (by assumption) rfl rfl rfl ?_ | refine WX.loadA rfl rfl rfl rfl ?_)
  | (refine I.bin ?_; first | refine WX.lss rfl rfl rfl ?_ | refine WX.eql rfl rfl rfl ?_ | refine WX.neq rfl rfl rfl ?_ | refine WX.leq rfl rfl rfl ?_ | refine WX.gtr rfl rfl rfl ?_ | refine WX.geq rfl rfl rfl ?_ | refine WX.add rfl rfl rfl (by omega) ?_ | refine WX.sub' rfl rfl rfl (by omega) ?_ | refine WX.eqPN rfl rfl rfl ?_ | refine WX.nePN rfl rfl rfl ?_ | refine WX.eqNN rfl rfl rfl ?_ | refine WX.neNN rfl rfl rfl ?_)
  | (refine I.un ?_; first | refine WX.notD rfl rfl ?_ | refine WX.not rfl rfl ?_)
  | (refine I.pk ?_; first | refine WX.pickT rfl rfl rfl ?_ | refine WX.pickF rfl rfl rfl ?_)
  | (refine I.bi ?_; first | refine WX.lenSl rfl (by assumption) rfl ?_ | refine WX.len rfl rfl ?_ | refine WX.lenS rfl rfl ?_ | refine WX.min rfl rfl rfl ?_ | refine WX.max rfl rfl rfl ?_)
  | (refine I.ix ?_; first | refine WX.idx rfl rfl (by assumption) (by assumption) rfl ?_ | refine WX.idxI rfl rfl (by assumption) (by omega) (by assumption) rfl ?_)
  | (refine I.sl ?_; refine WX.slTo rfl rfl (by assumption) (by omega) rfl ?_)
  | (refine I.st ?_; first | (refine WX.store rfl rfl rfl rfl ?_; try simp only [List.set_cons_zero, List.set_cons_succ, Nat.reduceAdd]) | (refine WX.storeG rfl rfl rfl rfl rfl rfl ?_; try simp only [setAt, List.set_cons_zero, List.set_cons_succ, Nat.reduceAdd]))
  | (refine I.bd ?_; refine WX.build rfl rfl rfl ?_; try simp only [setAt, Value.cells, List.set_cons_zero, List.set_cons_succ]) | (refine I.bx ?_; refine WX.box rfl rfl rfl (fun _ => ?_)) | (refine I.al ?_; refine WX.alloc rfl (fun _ => ?_)) | (refine I.ex ?_; refine WX.extract rfl rfl rfl ?_))
    refine W.mix (List.replicate 15 true) [[(b, .cells (List.toArray [v]) 92 (0, 0))], h'] Try.mix (by kernel_rfl) ?_
    repeat' (first
  | refine W.seq ?_ | refine W.region ?_ | refine WX.nil ?_ | refine D.seq ?_ | refine W.block ?_ | refine D.blk ?_ | refine W.skip ?_ | refine W.exit ?_ | refine W.ret ?_
  | refine WM.nil ?_ | refine WM.un ?_ | refine WM.an ?_ | refine WM.backU ?_ | refine WM.back ?_
  | refine D.blkX ?_ | refine D.blkY rfl ?_ | refine D.roundX ?_ | refine D.roundR ?_ | refine D.blkR ?_
  | (refine I.gd ?_; first | refine WX.gy rfl rfl ?_ | refine WX.gn rfl rfl rfl rfl ?_ | refine WX.gnN rfl rfl rfl ?_ | refine WX.gT rfl rfl (by first | assumption | omega) ?_ | refine WX.gF rfl rfl (by first | assumption | omega) ?_ | refine WX.gS rfl rfl (fun _ => ?_) (fun _ => ?_))
  | (refine I.cond ?_; first | refine W.condT rfl ?_ | refine W.condF rfl ?_ | refine W.condP rfl (by first | assumption | omega) ?_ | refine W.condN rfl (by first | assumption | omega) ?_)
  | (refine I.mv ?_; refine WX.move rfl rfl ?_) | (refine I.as ?_; refine WX.assign rfl rfl ?_)
  | (refine I.nc ?_; first | refine WX.nilCheck rfl rfl ?_ | refine WX.nilE rfl (by assumption) (by assumption) rfl ?_)
  | (refine I.fa ?_; first | refine WX.fieldAddr rfl rfl ?_ | refine WX.fieldE rfl (by assumption) (by assumption) rfl ?_)
  | (refine I.ld ?_; first | refine WX.load rfl rfl rfl ?_ | refine WX.loadE rfl (by assumption) (by assumption) rfl rfl rfl ?_ | refine WX.loadA rfl rfl rfl rfl ?_)
  | (refine I.bin ?_; first | refine WX.lss rfl rfl rfl ?_ | refine WX.eql rfl rfl rfl ?_ | refine WX.neq rfl rfl rfl ?_ | refine WX.leq rfl rfl rfl ?_ | refine WX.gtr rfl rfl rfl ?_ | refine WX.geq rfl rfl rfl ?_ | refine WX.add rfl rfl rfl (by omega) ?_ | refine WX.sub' rfl rfl rfl (by omega) ?_ | refine WX.eqPN rfl rfl rfl ?_ | refine WX.nePN rfl rfl rfl ?_ | refine WX.eqNN rfl rfl rfl ?_ | refine WX.neNN rfl rfl rfl ?_)
  | (refine I.un ?_; first | refine WX.notD rfl rfl ?_ | refine WX.not rfl rfl ?_)
  | (refine I.pk ?_; first | refine WX.pickT rfl rfl rfl ?_ | refine WX.pickF rfl rfl rfl ?_)
  | (refine I.bi ?_; first | refine WX.lenSl rfl (by assumption) rfl ?_ | refine WX.len rfl rfl ?_ | refine WX.lenS rfl rfl ?_ | refine WX.min rfl rfl rfl ?_ | refine WX.max rfl rfl rfl ?_)
  | (refine I.ix ?_; first | refine WX.idx rfl rfl (by assumption) (by assumption) rfl ?_ | refine WX.idxI rfl rfl (by assumption) (by omega) (by assumption) rfl ?_)
  | (refine I.sl ?_; refine WX.slTo rfl rfl (by assumption) (by omega) rfl ?_)
  | (refine I.st ?_; first | (refine WX.store rfl rfl rfl rfl ?_; try simp only [List.set_cons_zero, List.set_cons_succ, Nat.reduceAdd]) | (refine WX.storeG rfl rfl rfl rfl rfl rfl ?_; try simp only [setAt, List.set_cons_zero, List.set_cons_succ, Nat.reduceAdd]))
  | (refine I.bd ?_; refine WX.build rfl rfl rfl ?_; try simp only [setAt, Value.cells, List.set_cons_zero, List.set_cons_succ]) | (refine I.bx ?_; refine WX.box rfl rfl rfl (fun _ => ?_)) | (refine I.al ?_; refine WX.alloc rfl (fun _ => ?_)) | (refine I.ex ?_; refine WX.extract rfl rfl rfl ?_))
    refine WX.storeE (y' := tick1 x) rfl rfl rfl hw' hx' rfl rfl rfl rfl rfl (fun h2 hs2 => ?_)
    rw [mapTo_set hx] at hs2
    repeat' (first
  | refine W.seq ?_ | refine W.region ?_ | refine WX.nil ?_ | refine D.seq ?_ | refine W.block ?_ | refine D.blk ?_ | refine W.skip ?_ | refine W.exit ?_ | refine W.ret ?_
  | refine WM.nil ?_ | refine WM.un ?_ | refine WM.an ?_ | refine WM.backU ?_ | refine WM.back ?_
  | refine D.blkX ?_ | refine D.blkY rfl ?_ | refine D.roundX ?_ | refine D.roundR ?_ | refine D.blkR ?_
  | (refine I.gd ?_; first | refine WX.gy rfl rfl ?_ | refine WX.gn rfl rfl rfl rfl ?_ | refine WX.gnN rfl rfl rfl ?_ | refine WX.gT rfl rfl (by first | assumption | omega) ?_ | refine WX.gF rfl rfl (by first | assumption | omega) ?_ | refine WX.gS rfl rfl (fun _ => ?_) (fun _ => ?_))
  | (refine I.cond ?_; first | refine W.condT rfl ?_ | refine W.condF rfl ?_ | refine W.condP rfl (by first | assumption | omega) ?_ | refine W.condN rfl (by first | assumption | omega) ?_)
  | (refine I.mv ?_; refine WX.move rfl rfl ?_) | (refine I.as ?_; refine WX.assign rfl rfl ?_)
  | (refine I.nc ?_; first | refine WX.nilCheck rfl rfl ?_ | refine WX.nilE rfl (by assumption) (by assumption) rfl ?_)
  | (refine I.fa ?_; first | refine WX.fieldAddr rfl rfl ?_ | refine WX.fieldE rfl (by assumption) (by assumption) rfl ?_)
  | (refine I.ld ?_; first | refine WX.load rfl rfl rfl ?_ | refine WX.loadE rfl (by assumption) (by assumption) rfl rfl rfl ?_ | refine WX.loadA rfl rfl rfl rfl ?_)
  | (refine I.bin ?_; first | refine WX.lss rfl rfl rfl ?_ | refine WX.eql rfl rfl rfl ?_ | refine WX.neq rfl rfl rfl ?_ | refine WX.leq rfl rfl rfl ?_ | refine WX.gtr rfl rfl rfl ?_ | refine WX.geq rfl rfl rfl ?_ | refine WX.add rfl rfl rfl (by omega) ?_ | refine WX.sub' rfl rfl rfl (by omega) ?_ | refine WX.eqPN rfl rfl rfl ?_ | refine WX.nePN rfl rfl rfl ?_ | refine WX.eqNN rfl rfl rfl ?_ | refine WX.neNN rfl rfl rfl ?_)
  | (refine I.un ?_; first | refine WX.notD rfl rfl ?_ | refine WX.not rfl rfl ?_)
  | (refine I.pk ?_; first | refine WX.pickT rfl rfl rfl ?_ | refine WX.pickF rfl rfl rfl ?_)
  | (refine I.bi ?_; first | refine WX.lenSl rfl (by assumption) rfl ?_ | refine WX.len rfl rfl ?_ | refine WX.lenS rfl rfl ?_ | refine WX.min rfl rfl rfl ?_ | refine WX.max rfl rfl rfl ?_)
  | (refine I.ix ?_; first | refine WX.idx rfl rfl (by assumption) (by assumption) rfl ?_ | refine WX.idxI rfl rfl (by assumption) (by omega) (by assumption) rfl ?_)
  | (refine I.sl ?_; refine WX.slTo rfl rfl (by assumption) (by omega) rfl ?_)
  | (refine I.st ?_; first | (refine WX.store rfl rfl rfl rfl ?_; try simp only [List.set_cons_zero, List.set_cons_succ, Nat.reduceAdd]) | (refine WX.storeG rfl rfl rfl rfl rfl rfl ?_; try simp only [setAt, List.set_cons_zero, List.set_cons_succ, Nat.reduceAdd]))
  | (refine I.bd ?_; refine WX.build rfl rfl rfl ?_; try simp only [setAt, Value.cells, List.set_cons_zero, List.set_cons_succ]) | (refine I.bx ?_; refine WX.box rfl rfl rfl (fun _ => ?_)) | (refine I.al ?_; refine WX.alloc rfl (fun _ => ?_)) | (refine I.ex ?_; refine WX.extract rfl rfl rfl ?_))
    exact D.round (k + 1, h2) ⟨by simp only []; omega, hs2⟩ (by simp only []; omega) (by repeat (first | exact Fsub.nil | refine Fsub.cons rfl ?_)) (Hsub.of_picks inferInstance)
  · repeat' (first
  | refine W.seq ?_ | refine W.region ?_ | refine WX.nil ?_ | refine D.seq ?_ | refine W.block ?_ | refine D.blk ?_ | refine W.skip ?_ | refine W.exit ?_ | refine W.ret ?_
  | refine WM.nil ?_ | refine WM.un ?_ | refine WM.an ?_ | refine WM.backU ?_ | refine WM.back ?_
  | refine D.blkX ?_ | refine D.blkY rfl ?_ | refine D.roundX ?_ | refine D.roundR ?_ | refine D.blkR ?_
  | (refine I.gd ?_; first | refine WX.gy rfl rfl ?_ | refine WX.gn rfl rfl rfl rfl ?_ | refine WX.gnN rfl rfl rfl ?_ | refine WX.gT rfl rfl (by first | assumption | omega) ?_ | refine WX.gF rfl rfl (by first | assumption | omega) ?_ | refine WX.gS rfl rfl (fun _ => ?_) (fun _ => ?_))
  | (refine I.cond ?_; first | refine W.condT rfl ?_ | refine W.condF rfl ?_ | refine W.condP rfl (by first | assumption | omega) ?_ | refine W.condN rfl (by first | assumption | omega) ?_)
  | (refine I.mv ?_; refine WX.move rfl rfl ?_) | (refine I.as ?_; refine WX.assign rfl rfl ?_)
  | (refine I.nc ?_; first | refine WX.nilCheck rfl rfl ?_ | refine WX.nilE rfl (by assumption) (by assumption) rfl ?_)
  | (refine I.fa ?_; first | refine WX.fieldAddr rfl rfl ?_ | refine WX.fieldE rfl (by assumption) (by assumption) rfl ?_)
  | (refine I.ld ?_; first | refine WX.load rfl rfl rfl ?_ | refine WX.loadE rfl (by assumption) (by assumption) rfl rfl rfl ?_ | refine WX.loadA rfl rfl rfl rfl ?_)
  | (refine I.bin ?_; first | refine WX.lss rfl rfl rfl ?_ | refine WX.eql rfl rfl rfl ?_ | refine WX.neq rfl rfl rfl ?_ | refine WX.leq rfl rfl rfl ?_ | refine WX.gtr rfl rfl rfl ?_ | refine WX.geq rfl rfl rfl ?_ | refine WX.add rfl rfl rfl (by omega) ?_ | refine WX.sub' rfl rfl rfl (by omega) ?_ | refine WX.eqPN rfl rfl rfl ?_ | refine WX.nePN rfl rfl rfl ?_ | refine WX.eqNN rfl rfl rfl ?_ | refine WX.neNN rfl rfl rfl ?_)
  | (refine I.un ?_; first | refine WX.notD rfl rfl ?_ | refine WX.not rfl rfl ?_)
  | (refine I.pk ?_; first | refine WX.pickT rfl rfl rfl ?_ | refine WX.pickF rfl rfl rfl ?_)
  | (refine I.bi ?_; first | refine WX.lenSl rfl (by assumption) rfl ?_ | refine WX.len rfl rfl ?_ | refine WX.lenS rfl rfl ?_ | refine WX.min rfl rfl rfl ?_ | refine WX.max rfl rfl rfl ?_)
  | (refine I.ix ?_; first | refine WX.idx rfl rfl (by assumption) (by assumption) rfl ?_ | refine WX.idxI rfl rfl (by assumption) (by omega) (by assumption) rfl ?_)
  | (refine I.sl ?_; refine WX.slTo rfl rfl (by assumption) (by omega) rfl ?_)
  | (refine I.st ?_; first | (refine WX.store rfl rfl rfl rfl ?_; try simp only [List.set_cons_zero, List.set_cons_succ, Nat.reduceAdd]) | (refine WX.storeG rfl rfl rfl rfl rfl rfl ?_; try simp only [setAt, List.set_cons_zero, List.set_cons_succ, Nat.reduceAdd]))
  | (refine I.bd ?_; refine WX.build rfl rfl rfl ?_; try simp only [setAt, Value.cells, List.set_cons_zero, List.set_cons_succ]) | (refine I.bx ?_; refine WX.box rfl rfl rfl (fun _ => ?_)) | (refine I.al ?_; refine WX.alloc rfl (fun _ => ?_)) | (refine I.ex ?_; refine WX.extract rfl rfl rfl ?_))
    obtain rfl : k = xs.length := by omega
    rw [mapTo_all] at hw'
    exact D.finE [(b, .cells (List.toArray [v]) 92 (0, 0)) :: h'] _ rfl ⟨rfl, _, rfl, v, h', rfl, hw'⟩

theorem silence_ct {b : Nat} {xs : List Int} {h : Hp} (hw : WAt 92 b xs h) (i : Int) :
    Ct Try.prog 23 [.pointer (some ⟨b, 0, none⟩), .int .i64 i] [h] (fun v H' => v = .int .i64 (if 0 ≤ i ∧ i < xs.length then xs.getD i.toNat 0 else 0) ∧ H' = [h]) := by
  have hc := has_ct hw i
  obtain ⟨v, hv, rfl, hs⟩ := hw
  have hr := hs.rs
  refine Ct.mk' Try.func23 rfl rfl rfl (fun g R => ?_)
  try simp only [List.cons_append]
  simp only [List.nil_append]
  by_cases hin : 0 ≤ i ∧ i < xs.length
  · have hx : xs[i.toNat]? = some (xs.getD i.toNat 0) := by rw [List.getD_eq_getElem?_getD, List.getElem?_eq_getElem (by omega)]; rfl
    repeat' (first
  | refine W.seq ?_ | refine W.region ?_ | refine WX.nil ?_ | refine D.seq ?_ | refine W.block ?_ | refine D.blk ?_ | refine W.skip ?_ | refine W.exit ?_ | refine W.ret ?_
  | refine WM.nil ?_ | refine WM.un ?_ | refine WM.an ?_ | refine WM.backU ?_ | refine WM.back ?_
  | refine D.blkX ?_ | refine D.blkY rfl ?_ | refine D.roundX ?_ | refine D.roundR ?_ | refine D.blkR ?_
  | (refine I.gd ?_; first | refine WX.gy rfl rfl ?_ | refine WX.gn rfl rfl rfl rfl ?_ | refine WX.gnN rfl rfl rfl ?_ | refine WX.gT rfl rfl (by first | assumption | omega) ?_ | refine WX.gF rfl rfl (by first | assumption | omega) ?_ | refine WX.gS rfl rfl (fun _ => ?_) (fun _ => ?_))
  | (refine I.cond ?_; first | refine W.condT rfl ?_ | refine W.condF rfl ?_ | refine W.condP rfl (by first | assumption | omega) ?_ | refine W.condN rfl (by first | assumption | omega) ?_)
  | (refine I.mv ?_; refine WX.move rfl rfl ?_) | (refine I.as ?_; refine WX.assign rfl rfl ?_)
  | (refine I.nc ?_; first | refine WX.nilCheck rfl rfl ?_ | refine WX.nilE rfl (by assumption) (by assumption) rfl ?_)
  | (refine I.fa ?_; first | refine WX.fieldAddr rfl rfl ?_ | refine WX.fieldE rfl (by assumption) (by assumption) rfl ?_)
  | (refine I.ld ?_; first | refine WX.load rfl rfl rfl ?_ | refine WX.loadE rfl (by assumption) (by assumption) rfl rfl rfl ?_ | refine WX.loadA rfl rfl rfl rfl ?_)
  | (refine I.bin ?_; first | refine WX.lss rfl rfl rfl ?_ | refine WX.eql rfl rfl rfl ?_ | refine WX.neq rfl rfl rfl ?_ | refine WX.leq rfl rfl rfl ?_ | refine WX.gtr rfl rfl rfl ?_ | refine WX.geq rfl rfl rfl ?_ | refine WX.add rfl rfl rfl (by omega) ?_ | refine WX.sub' rfl rfl rfl (by omega) ?_ | refine WX.eqPN rfl rfl rfl ?_ | refine WX.nePN rfl rfl rfl ?_ | refine WX.eqNN rfl rfl rfl ?_ | refine WX.neNN rfl rfl rfl ?_)
  | (refine I.un ?_; first | refine WX.notD rfl rfl ?_ | refine WX.not rfl rfl ?_)
  | (refine I.pk ?_; first | refine WX.pickT rfl rfl rfl ?_ | refine WX.pickF rfl rfl rfl ?_)
  | (refine I.bi ?_; first | refine WX.lenSl rfl (by assumption) rfl ?_ | refine WX.len rfl rfl ?_ | refine WX.lenS rfl rfl ?_ | refine WX.min rfl rfl rfl ?_ | refine WX.max rfl rfl rfl ?_)
  | (refine I.ix ?_; first | refine WX.idx rfl rfl (by assumption) (by assumption) rfl ?_ | refine WX.idxI rfl rfl (by assumption) (by omega) (by assumption) rfl ?_)
  | (refine I.sl ?_; refine WX.slTo rfl rfl (by assumption) (by omega) rfl ?_)
  | (refine I.st ?_; first | (refine WX.store rfl rfl rfl rfl ?_; try simp only [List.set_cons_zero, List.set_cons_succ, Nat.reduceAdd]) | (refine WX.storeG rfl rfl rfl rfl rfl rfl ?_; try simp only [setAt, List.set_cons_zero, List.set_cons_succ, Nat.reduceAdd]))
  | (refine I.bd ?_; refine WX.build rfl rfl rfl ?_; try simp only [setAt, Value.cells, List.set_cons_zero, List.set_cons_succ]) | (refine I.bx ?_; refine WX.box rfl rfl rfl (fun _ => ?_)) | (refine I.al ?_; refine WX.alloc rfl (fun _ => ?_)) | (refine I.ex ?_; refine WX.extract rfl rfl rfl ?_) | refine WX.callQ rfl hc rfl ?_)
    exact D.fin1 [_] _ rfl rfl ⟨by rw [if_pos hin], rfl⟩
  · repeat' (first
  | refine W.seq ?_ | refine W.region ?_ | refine WX.nil ?_ | refine D.seq ?_ | refine W.block ?_ | refine D.blk ?_ | refine W.skip ?_ | refine W.exit ?_ | refine W.ret ?_
  | refine WM.nil ?_ | refine WM.un ?_ | refine WM.an ?_ | refine WM.backU ?_ | refine WM.back ?_
  | refine D.blkX ?_ | refine D.blkY rfl ?_ | refine D.roundX ?_ | refine D.roundR ?_ | refine D.blkR ?_
  | (refine I.gd ?_; first | refine WX.gy rfl rfl ?_ | refine WX.gn rfl rfl rfl rfl ?_ | refine WX.gnN rfl rfl rfl ?_ | refine WX.gT rfl rfl (by first | assumption | omega) ?_ | refine WX.gF rfl rfl (by first | assumption | omega) ?_ | refine WX.gS rfl rfl (fun _ => ?_) (fun _ => ?_))
  | (refine I.cond ?_; first | refine W.condT rfl ?_ | refine W.condF rfl ?_ | refine W.condP rfl (by first | assumption | omega) ?_ | refine W.condN rfl (by first | assumption | omega) ?_)
  | (refine I.mv ?_; refine WX.move rfl rfl ?_) | (refine I.as ?_; refine WX.assign rfl rfl ?_)
  | (refine I.nc ?_; first | refine WX.nilCheck rfl rfl ?_ | refine WX.nilE rfl (by assumption) (by assumption) rfl ?_)
  | (refine I.fa ?_; first | refine WX.fieldAddr rfl rfl ?_ | refine WX.fieldE rfl (by assumption) (by assumption) rfl ?_)
  | (refine I.ld ?_; first | refine WX.load rfl rfl rfl ?_ | refine WX.loadE rfl (by assumption) (by assumption) rfl rfl rfl ?_ | refine WX.loadA rfl rfl rfl rfl ?_)
  | (refine I.bin ?_; first | refine WX.lss rfl rfl rfl ?_ | refine WX.eql rfl rfl rfl ?_ | refine WX.neq rfl rfl rfl ?_ | refine WX.leq rfl rfl rfl ?_ | refine WX.gtr rfl rfl rfl ?_ | refine WX.geq rfl rfl rfl ?_ | refine WX.add rfl rfl rfl (by omega) ?_ | refine WX.sub' rfl rfl rfl (by omega) ?_ | refine WX.eqPN rfl rfl rfl ?_ | refine WX.nePN rfl rfl rfl ?_ | refine WX.eqNN rfl rfl rfl ?_ | refine WX.neNN rfl rfl rfl ?_)
  | (refine I.un ?_; first | refine WX.notD rfl rfl ?_ | refine WX.not rfl rfl ?_)
  | (refine I.pk ?_; first | refine WX.pickT rfl rfl rfl ?_ | refine WX.pickF rfl rfl rfl ?_)
  | (refine I.bi ?_; first | refine WX.lenSl rfl (by assumption) rfl ?_ | refine WX.len rfl rfl ?_ | refine WX.lenS rfl rfl ?_ | refine WX.min rfl rfl rfl ?_ | refine WX.max rfl rfl rfl ?_)
  | (refine I.ix ?_; first | refine WX.idx rfl rfl (by assumption) (by assumption) rfl ?_ | refine WX.idxI rfl rfl (by assumption) (by omega) (by assumption) rfl ?_)
  | (refine I.sl ?_; refine WX.slTo rfl rfl (by assumption) (by omega) rfl ?_)
  | (refine I.st ?_; first | (refine WX.store rfl rfl rfl rfl ?_; try simp only [List.set_cons_zero, List.set_cons_succ, Nat.reduceAdd]) | (refine WX.storeG rfl rfl rfl rfl rfl rfl ?_; try simp only [setAt, List.set_cons_zero, List.set_cons_succ, Nat.reduceAdd]))
  | (refine I.bd ?_; refine WX.build rfl rfl rfl ?_; try simp only [setAt, Value.cells, List.set_cons_zero, List.set_cons_succ]) | (refine I.bx ?_; refine WX.box rfl rfl rfl (fun _ => ?_)) | (refine I.al ?_; refine WX.alloc rfl (fun _ => ?_)) | (refine I.ex ?_; refine WX.extract rfl rfl rfl ?_) | refine WX.callQ rfl hc rfl ?_)
    exact D.fin1 [_] _ rfl rfl ⟨by rw [if_neg hin], rfl⟩

def silK (xs : List Int) (lim : Int) (k : Nat) : List Int := ((List.range k).filter fun i => decide (lim ≤ xs.getD i 0)).map Int.ofNat
def silL (xs : List Int) (lim : Int) : List Int := silK xs lim xs.length
theorem silK_len (xs : List Int) (lim : Int) (k : Nat) : (silK xs lim k).length ≤ k := by
  unfold silK; rw [List.length_map]; have := List.length_filter_le (fun i => decide (lim ≤ xs.getD i 0)) (List.range k); simpa using this
theorem silK_succ {xs : List Int} {lim : Int} {k : Nat} {x : Int} (h : xs[k]? = some x) : silK xs lim (k + 1) = if lim ≤ x then silK xs lim k ++ [(k : Int)] else silK xs lim k := by
  unfold silK
  rw [List.range_succ, List.filter_append]
  by_cases hx : lim ≤ x <;> simp [h, hx]

theorem silent_ct {b : Nat} {xs : List Int} {h : Hp} (hw : WAt 92 b xs h) (hl : xs.length ≤ 64) (lim : Int) :
    Ct Try.prog 21 [.pointer (some ⟨b, 0, none⟩), .int .i64 lim] [h] (fun v H' => ∃ h', H' = [h, h'] ∧ IsSl 3 (silL xs lim) v h') := by
  obtain ⟨v, hv, rfl, hs⟩ := hw
  have hr := hs.rs
  refine Ct.mk' Try.func21 rfl rfl rfl (fun g R => ?_)
  try simp only [List.cons_append]
  simp only [List.nil_append]
  repeat' (first
  | refine W.seq ?_ | refine W.region ?_ | refine WX.nil ?_ | refine D.seq ?_ | refine W.block ?_ | refine D.blk ?_ | refine W.skip ?_ | refine W.exit ?_ | refine W.ret ?_
  | refine WM.nil ?_ | refine WM.un ?_ | refine WM.an ?_ | refine WM.backU ?_ | refine WM.back ?_
  | refine D.blkX ?_ | refine D.blkY rfl ?_ | refine D.roundX ?_ | refine D.roundR ?_ | refine D.blkR ?_
  | (refine I.gd ?_; first | refine WX.gy rfl rfl ?_ | refine WX.gn rfl rfl rfl rfl ?_ | refine WX.gnN rfl rfl rfl ?_ | refine WX.gT rfl rfl (by first | assumption | omega) ?_ | refine WX.gF rfl rfl (by first | assumption | omega) ?_ | refine WX.gS rfl rfl (fun _ => ?_) (fun _ => ?_))
  | (refine I.cond ?_; first | refine W.condT rfl ?_ | refine W.condF rfl ?_ | refine W.condP rfl (by first | assumption | omega) ?_ | refine W.condN rfl (by first | assumption | omega) ?_)
  | (refine I.mv ?_; refine WX.move rfl rfl ?_) | (refine I.as ?_; refine WX.assign rfl rfl ?_)
  | (refine I.nc ?_; first | refine WX.nilCheck rfl rfl ?_ | refine WX.nilE rfl (by assumption) (by assumption) rfl ?_)
  | (refine I.fa ?_; first | refine WX.fieldAddr rfl rfl ?_ | refine WX.fieldE rfl (by assumption) (by assumption) rfl ?_)
  | (refine I.ld ?_; first | refine WX.load rfl rfl rfl ?_ | refine WX.loadE rfl (by assumption) (by assumption) rfl rfl rfl ?_ | refine WX.loadA rfl rfl rfl rfl ?_)
  | (refine I.bin ?_; first | refine WX.lss rfl rfl rfl ?_ | refine WX.eql rfl rfl rfl ?_ | refine WX.neq rfl rfl rfl ?_ | refine WX.leq rfl rfl rfl ?_ | refine WX.gtr rfl rfl rfl ?_ | refine WX.geq rfl rfl rfl ?_ | refine WX.add rfl rfl rfl (by omega) ?_ | refine WX.sub' rfl rfl rfl (by omega) ?_ | refine WX.eqPN rfl rfl rfl ?_ | refine WX.nePN rfl rfl rfl ?_ | refine WX.eqNN rfl rfl rfl ?_ | refine WX.neNN rfl rfl rfl ?_)
  | (refine I.un ?_; first | refine WX.notD rfl rfl ?_ | refine WX.not rfl rfl ?_)
  | (refine I.pk ?_; first | refine WX.pickT rfl rfl rfl ?_ | refine WX.pickF rfl rfl rfl ?_)
  | (refine I.bi ?_; first | refine WX.lenSl rfl (by assumption) rfl ?_ | refine WX.len rfl rfl ?_ | refine WX.lenS rfl rfl ?_ | refine WX.min rfl rfl rfl ?_ | refine WX.max rfl rfl rfl ?_)
  | (refine I.ix ?_; first | refine WX.idx rfl rfl (by assumption) (by assumption) rfl ?_ | refine WX.idxI rfl rfl (by assumption) (by omega) (by assumption) rfl ?_)
  | (refine I.sl ?_; refine WX.slTo rfl rfl (by assumption) (by omega) rfl ?_)
  | (refine I.st ?_; first | (refine WX.store rfl rfl rfl rfl ?_; try simp only [List.set_cons_zero, List.set_cons_succ, Nat.reduceAdd]) | (refine WX.storeG rfl rfl rfl rfl rfl rfl ?_; try simp only [setAt, List.set_cons_zero, List.set_cons_succ, Nat.reduceAdd]))
  | (refine I.bd ?_; refine WX.build rfl rfl rfl ?_; try simp only [setAt, Value.cells, List.set_cons_zero, List.set_cons_succ]) | (refine I.bx ?_; refine WX.box rfl rfl rfl (fun _ => ?_)) | (refine I.al ?_; refine WX.alloc rfl (fun _ => ?_)) | (refine I.ex ?_; refine WX.extract rfl rfl rfl ?_))
  refine W.loop (α := Nat × Value × Hp) (fun x => x.1 ≤ xs.length ∧ IsSl 3 (silK xs lim x.1) x.2.1 x.2.2)
    (fun x => [(1, .int .i64 lim), (5, x.2.1), (11, v), (12, .int .i64 xs.length), (13, .int .i64 (x.1 : Int))]) (fun x => [x.2.2, [(b, .cells (List.toArray [v]) 92 (0, 0))], hv, R]) (fun x => xs.length - x.1)
    (0, .slice none 0 0, []) ⟨by omega, by simpa [silK] using IsSl.nil (α := Int) 3⟩ (by repeat (first | exact Fsub.nil | refine Fsub.cons rfl ?_)) (Hsub.of_picks inferInstance) ?_
  rintro ⟨k, u, h'⟩ ⟨hk, hu⟩
  simp only [] at hk hu ⊢
  have hkl := silK_len xs lim k
  by_cases hlt : k < xs.length
  · obtain ⟨x, hx⟩ : ∃ x, xs[k]? = some x := ⟨_, List.getElem?_eq_getElem hlt⟩
    by_cases hc : lim ≤ x
    · repeat' (first
  | refine W.seq ?_ | refine W.region ?_ | refine WX.nil ?_ | refine D.seq ?_ | refine W.block ?_ | refine D.blk ?_ | refine W.skip ?_ | refine W.exit ?_ | refine W.ret ?_
  | refine WM.nil ?_ | refine WM.un ?_ | refine WM.an ?_ | refine WM.backU ?_ | refine WM.back ?_
  | refine D.blkX ?_ | refine D.blkY rfl ?_ | refine D.roundX ?_ | refine D.roundR ?_ | refine D.blkR ?_
  | (refine I.gd ?_; first | refine WX.gy rfl rfl ?_ | refine WX.gn rfl rfl rfl rfl ?_ | refine WX.gnN rfl rfl rfl ?_ | refine WX.gT rfl rfl (by first | assumption | omega) ?_ | refine WX.gF rfl rfl (by first | assumption | omega) ?_ | refine WX.gS rfl rfl (fun _ => ?_) (fun _ => ?_))
  | (refine I.cond ?_; first | refine W.condT rfl ?_ | refine W.condF rfl ?_ | refine W.condP rfl (by first | assumption | omega) ?_ | refine W.condN rfl (by first | assumption | omega) ?_)
  | (refine I.mv ?_; refine WX.move rfl rfl ?_) | (refine I.as ?_; refine WX.assign rfl rfl ?_)
  | (refine I.nc ?_; first | refine WX.nilCheck rfl rfl ?_ | refine WX.nilE rfl (by assumption) (by assumption) rfl ?_)
  | (refine I.fa ?_; first | refine WX.fieldAddr rfl rfl ?_ | refine WX.fieldE rfl (by assumption) (by assumption) rfl ?_)
  | (refine I.ld ?_; first | refine WX.load rfl rfl rfl ?_ | refine WX.loadE rfl (by assumption) (by assumption) rfl rfl rfl ?_ | refine WX.loadA rfl rfl rfl rfl ?_)
  | (refine I.bin ?_; first | refine WX.lss rfl rfl rfl ?_ | refine WX.eql rfl rfl rfl ?_ | refine WX.neq rfl rfl rfl ?_ | refine WX.leq rfl rfl rfl ?_ | refine WX.gtr rfl rfl rfl ?_ | refine WX.geq rfl rfl rfl ?_ | refine WX.add rfl rfl rfl (by omega) ?_ | refine WX.sub' rfl rfl rfl (by omega) ?_ | refine WX.eqPN rfl rfl rfl ?_ | refine WX.nePN rfl rfl rfl ?_ | refine WX.eqNN rfl rfl rfl ?_ | refine WX.neNN rfl rfl rfl ?_)
  | (refine I.un ?_; first | refine WX.notD rfl rfl ?_ | refine WX.not rfl rfl ?_)
  | (refine I.pk ?_; first | refine WX.pickT rfl rfl rfl ?_ | refine WX.pickF rfl rfl rfl ?_)
  | (refine I.bi ?_; first | refine WX.lenSl rfl (by assumption) rfl ?_ | refine WX.len rfl rfl ?_ | refine WX.lenS rfl rfl ?_ | refine WX.min rfl rfl rfl ?_ | refine WX.max rfl rfl rfl ?_)
  | (refine I.ix ?_; first | refine WX.idx rfl rfl (by assumption) (by assumption) rfl ?_ | refine WX.idxI rfl rfl (by assumption) (by omega) (by assumption) rfl ?_)
  | (refine I.sl ?_; refine WX.slTo rfl rfl (by assumption) (by omega) rfl ?_)
  | (refine I.st ?_; first | (refine WX.store rfl rfl rfl rfl ?_; try simp only [List.set_cons_zero, List.set_cons_succ, Nat.reduceAdd]) | (refine WX.storeG rfl rfl rfl rfl rfl rfl ?_; try simp only [setAt, List.set_cons_zero, List.set_cons_succ, Nat.reduceAdd]))
  | (refine I.bd ?_; refine WX.build rfl rfl rfl ?_; try simp only [setAt, Value.cells, List.set_cons_zero, List.set_cons_succ]) | (refine I.bx ?_; refine WX.box rfl rfl rfl (fun _ => ?_)) | (refine I.al ?_; refine WX.alloc rfl (fun _ => ?_)) | (refine I.ex ?_; refine WX.extract rfl rfl rfl ?_))
      refine WX.lit (ys := [(k : Int)]) rfl rfl rfl rfl rfl rfl (by decide) rfl (fun v1 h1 hs1 => ?_)
      refine WX.app rfl rfl hu hs1.rs rfl rfl (by decide) (by simp only [List.length_cons, List.length_nil]; omega) rfl (fun v2 h2 hs2 => ?_)
      repeat' (first
  | refine W.seq ?_ | refine W.region ?_ | refine WX.nil ?_ | refine D.seq ?_ | refine W.block ?_ | refine D.blk ?_ | refine W.skip ?_ | refine W.exit ?_ | refine W.ret ?_
  | refine WM.nil ?_ | refine WM.un ?_ | refine WM.an ?_ | refine WM.backU ?_ | refine WM.back ?_
  | refine D.blkX ?_ | refine D.blkY rfl ?_ | refine D.roundX ?_ | refine D.roundR ?_ | refine D.blkR ?_
  | (refine I.gd ?_; first | refine WX.gy rfl rfl ?_ | refine WX.gn rfl rfl rfl rfl ?_ | refine WX.gnN rfl rfl rfl ?_ | refine WX.gT rfl rfl (by first | assumption | omega) ?_ | refine WX.gF rfl rfl (by first | assumption | omega) ?_ | refine WX.gS rfl rfl (fun _ => ?_) (fun _ => ?_))
  | (refine I.cond ?_; first | refine W.condT rfl ?_ | refine W.condF rfl ?_ | refine W.condP rfl (by first | assumption | omega) ?_ | refine W.condN rfl (by first | assumption | omega) ?_)
  | (refine I.mv ?_; refine WX.move rfl rfl ?_) | (refine I.as ?_; refine WX.assign rfl rfl ?_)
  | (refine I.nc ?_; first | refine WX.nilCheck rfl rfl ?_ | refine WX.nilE rfl (by assumption) (by assumption) rfl ?_)
  | (refine I.fa ?_; first | refine WX.fieldAddr rfl rfl ?_ | refine WX.fieldE rfl (by assumption) (by assumption) rfl ?_)
  | (refine I.ld ?_; first | refine WX.load rfl rfl rfl ?_ | refine WX.loadE rfl (by assumption) (by assumption) rfl rfl rfl ?_ | refine WX.loadA rfl rfl rfl rfl ?_)
  | (refine I.bin ?_; first | refine WX.lss rfl rfl rfl ?_ | refine WX.eql rfl rfl rfl ?_ | refine WX.neq rfl rfl rfl ?_ | refine WX.leq rfl rfl rfl ?_ | refine WX.gtr rfl rfl rfl ?_ | refine WX.geq rfl rfl rfl ?_ | refine WX.add rfl rfl rfl (by omega) ?_ | refine WX.sub' rfl rfl rfl (by omega) ?_ | refine WX.eqPN rfl rfl rfl ?_ | refine WX.nePN rfl rfl rfl ?_ | refine WX.eqNN rfl rfl rfl ?_ | refine WX.neNN rfl rfl rfl ?_)
  | (refine I.un ?_; first | refine WX.notD rfl rfl ?_ | refine WX.not rfl rfl ?_)
  | (refine I.pk ?_; first | refine WX.pickT rfl rfl rfl ?_ | refine WX.pickF rfl rfl rfl ?_)
  | (refine I.bi ?_; first | refine WX.lenSl rfl (by assumption) rfl ?_ | refine WX.len rfl rfl ?_ | refine WX.lenS rfl rfl ?_ | refine WX.min rfl rfl rfl ?_ | refine WX.max rfl rfl rfl ?_)
  | (refine I.ix ?_; first | refine WX.idx rfl rfl (by assumption) (by assumption) rfl ?_ | refine WX.idxI rfl rfl (by assumption) (by omega) (by assumption) rfl ?_)
  | (refine I.sl ?_; refine WX.slTo rfl rfl (by assumption) (by omega) rfl ?_)
  | (refine I.st ?_; first | (refine WX.store rfl rfl rfl rfl ?_; try simp only [List.set_cons_zero, List.set_cons_succ, Nat.reduceAdd]) | (refine WX.storeG rfl rfl rfl rfl rfl rfl ?_; try simp only [setAt, List.set_cons_zero, List.set_cons_succ, Nat.reduceAdd]))
  | (refine I.bd ?_; refine WX.build rfl rfl rfl ?_; try simp only [setAt, Value.cells, List.set_cons_zero, List.set_cons_succ]) | (refine I.bx ?_; refine WX.box rfl rfl rfl (fun _ => ?_)) | (refine I.al ?_; refine WX.alloc rfl (fun _ => ?_)) | (refine I.ex ?_; refine WX.extract rfl rfl rfl ?_))
      exact D.round (k + 1, v2, h2) ⟨by simp only []; omega, by simp only []; rw [silK_succ hx, if_pos hc]; exact hs2⟩ (by simp only []; omega) (by repeat (first | exact Fsub.nil | refine Fsub.cons rfl ?_)) (Hsub.of_picks inferInstance)
    · repeat' (first
  | refine W.seq ?_ | refine W.region ?_ | refine WX.nil ?_ | refine D.seq ?_ | refine W.block ?_ | refine D.blk ?_ | refine W.skip ?_ | refine W.exit ?_ | refine W.ret ?_
  | refine WM.nil ?_ | refine WM.un ?_ | refine WM.an ?_ | refine WM.backU ?_ | refine WM.back ?_
  | refine D.blkX ?_ | refine D.blkY rfl ?_ | refine D.roundX ?_ | refine D.roundR ?_ | refine D.blkR ?_
  | (refine I.gd ?_; first | refine WX.gy rfl rfl ?_ | refine WX.gn rfl rfl rfl rfl ?_ | refine WX.gnN rfl rfl rfl ?_ | refine WX.gT rfl rfl (by first | assumption | omega) ?_ | refine WX.gF rfl rfl (by first | assumption | omega) ?_ | refine WX.gS rfl rfl (fun _ => ?_) (fun _ => ?_))
  | (refine I.cond ?_; first | refine W.condT rfl ?_ | refine W.condF rfl ?_ | refine W.condP rfl (by first | assumption | omega) ?_ | refine W.condN rfl (by first | assumption | omega) ?_)
  | (refine I.mv ?_; refine WX.move rfl rfl ?_) | (refine I.as ?_; refine WX.assign rfl rfl ?_)
  | (refine I.nc ?_; first | refine WX.nilCheck rfl rfl ?_ | refine WX.nilE rfl (by assumption) (by assumption) rfl ?_)
  | (refine I.fa ?_; first | refine WX.fieldAddr rfl rfl ?_ | refine WX.fieldE rfl (by assumption) (by assumption) rfl ?_)
  | (refine I.ld ?_; first | refine WX.load rfl rfl rfl ?_ | refine WX.loadE rfl (by assumption) (by assumption) rfl rfl rfl ?_ | refine WX.loadA rfl rfl rfl rfl ?_)
  | (refine I.bin ?_; first | refine WX.lss rfl rfl rfl ?_ | refine WX.eql rfl rfl rfl ?_ | refine WX.neq rfl rfl rfl ?_ | refine WX.leq rfl rfl rfl ?_ | refine WX.gtr rfl rfl rfl ?_ | refine WX.geq rfl rfl rfl ?_ | refine WX.add rfl rfl rfl (by omega) ?_ | refine WX.sub' rfl rfl rfl (by omega) ?_ | refine WX.eqPN rfl rfl rfl ?_ | refine WX.nePN rfl rfl rfl ?_ | refine WX.eqNN rfl rfl rfl ?_ | refine WX.neNN rfl rfl rfl ?_)
  | (refine I.un ?_; first | refine WX.notD rfl rfl ?_ | refine WX.not rfl rfl ?_)
  | (refine I.pk ?_; first | refine WX.pickT rfl rfl rfl ?_ | refine WX.pickF rfl rfl rfl ?_)
  | (refine I.bi ?_; first | refine WX.lenSl rfl (by assumption) rfl ?_ | refine WX.len rfl rfl ?_ | refine WX.lenS rfl rfl ?_ | refine WX.min rfl rfl rfl ?_ | refine WX.max rfl rfl rfl ?_)
  | (refine I.ix ?_; first | refine WX.idx rfl rfl (by assumption) (by assumption) rfl ?_ | refine WX.idxI rfl rfl (by assumption) (by omega) (by assumption) rfl ?_)
  | (refine I.sl ?_; refine WX.slTo rfl rfl (by assumption) (by omega) rfl ?_)
  | (refine I.st ?_; first | (refine WX.store rfl rfl rfl rfl ?_; try simp only [List.set_cons_zero, List.set_cons_succ, Nat.reduceAdd]) | (refine WX.storeG rfl rfl rfl rfl rfl rfl ?_; try simp only [setAt, List.set_cons_zero, List.set_cons_succ, Nat.reduceAdd]))
  | (refine I.bd ?_; refine WX.build rfl rfl rfl ?_; try simp only [setAt, Value.cells, List.set_cons_zero, List.set_cons_succ]) | (refine I.bx ?_; refine WX.box rfl rfl rfl (fun _ => ?_)) | (refine I.al ?_; refine WX.alloc rfl (fun _ => ?_)) | (refine I.ex ?_; refine WX.extract rfl rfl rfl ?_))
      exact D.round (k + 1, u, h') ⟨by simp only []; omega, by simp only []; rw [silK_succ hx, if_neg hc]; exact hu⟩ (by simp only []; omega) (by repeat (first | exact Fsub.nil | refine Fsub.cons rfl ?_)) (Hsub.of_picks inferInstance)
  · repeat' (first
  | refine W.seq ?_ | refine W.region ?_ | refine WX.nil ?_ | refine D.seq ?_ | refine W.block ?_ | refine D.blk ?_ | refine W.skip ?_ | refine W.exit ?_ | refine W.ret ?_
  | refine WM.nil ?_ | refine WM.un ?_ | refine WM.an ?_ | refine WM.backU ?_ | refine WM.back ?_
  | refine D.blkX ?_ | refine D.blkY rfl ?_ | refine D.roundX ?_ | refine D.roundR ?_ | refine D.blkR ?_
  | (refine I.gd ?_; first | refine WX.gy rfl rfl ?_ | refine WX.gn rfl rfl rfl rfl ?_ | refine WX.gnN rfl rfl rfl ?_ | refine WX.gT rfl rfl (by first | assumption | omega) ?_ | refine WX.gF rfl rfl (by first | assumption | omega) ?_ | refine WX.gS rfl rfl (fun _ => ?_) (fun _ => ?_))
  | (refine I.cond ?_; first | refine W.condT rfl ?_ | refine W.condF rfl ?_ | refine W.condP rfl (by first | assumption | omega) ?_ | refine W.condN rfl (by first | assumption | omega) ?_)
  | (refine I.mv ?_; refine WX.move rfl rfl ?_) | (refine I.as ?_; refine WX.assign rfl rfl ?_)
  | (refine I.nc ?_; first | refine WX.nilCheck rfl rfl ?_ | refine WX.nilE rfl (by assumption) (by assumption) rfl ?_)
  | (refine I.fa ?_; first | refine WX.fieldAddr rfl rfl ?_ | refine WX.fieldE rfl (by assumption) (by assumption) rfl ?_)
  | (refine I.ld ?_; first | refine WX.load rfl rfl rfl ?_ | refine WX.loadE rfl (by assumption) (by assumption) rfl rfl rfl ?_ | refine WX.loadA rfl rfl rfl rfl ?_)
  | (refine I.bin ?_; first | refine WX.lss rfl rfl rfl ?_ | refine WX.eql rfl rfl rfl ?_ | refine WX.neq rfl rfl rfl ?_ | refine WX.leq rfl rfl rfl ?_ | refine WX.gtr rfl rfl rfl ?_ | refine WX.geq rfl rfl rfl ?_ | refine WX.add rfl rfl rfl (by omega) ?_ | refine WX.sub' rfl rfl rfl (by omega) ?_ | refine WX.eqPN rfl rfl rfl ?_ | refine WX.nePN rfl rfl rfl ?_ | refine WX.eqNN rfl rfl rfl ?_ | refine WX.neNN rfl rfl rfl ?_)
  | (refine I.un ?_; first | refine WX.notD rfl rfl ?_ | refine WX.not rfl rfl ?_)
  | (refine I.pk ?_; first | refine WX.pickT rfl rfl rfl ?_ | refine WX.pickF rfl rfl rfl ?_)
  | (refine I.bi ?_; first | refine WX.lenSl rfl (by assumption) rfl ?_ | refine WX.len rfl rfl ?_ | refine WX.lenS rfl rfl ?_ | refine WX.min rfl rfl rfl ?_ | refine WX.max rfl rfl rfl ?_)
  | (refine I.ix ?_; first | refine WX.idx rfl rfl (by assumption) (by assumption) rfl ?_ | refine WX.idxI rfl rfl (by assumption) (by omega) (by assumption) rfl ?_)
  | (refine I.sl ?_; refine WX.slTo rfl rfl (by assumption) (by omega) rfl ?_)
  | (refine I.st ?_; first | (refine WX.store rfl rfl rfl rfl ?_; try simp only [List.set_cons_zero, List.set_cons_succ, Nat.reduceAdd]) | (refine WX.storeG rfl rfl rfl rfl rfl rfl ?_; try simp only [setAt, List.set_cons_zero, List.set_cons_succ, Nat.reduceAdd]))
  | (refine I.bd ?_; refine WX.build rfl rfl rfl ?_; try simp only [setAt, Value.cells, List.set_cons_zero, List.set_cons_succ]) | (refine I.bx ?_; refine WX.box rfl rfl rfl (fun _ => ?_)) | (refine I.al ?_; refine WX.alloc rfl (fun _ => ?_)) | (refine I.ex ?_; refine WX.extract rfl rfl rfl ?_))
    obtain rfl : k = xs.length := by omega
    exact D.fin1 [_, h'] _ rfl rfl ⟨h', rfl, hu⟩

def newN (n : Int) : Nat := (if 0 < (if 64 < n then 64 else n) then (if 64 < n then 64 else n) else 0).toNat
theorem newN_le (n : Int) : newN n ≤ 64 := by unfold newN; split <;> (try split) <;> omega
theorem new_ct (n : Int) :
    Ct Try.prog 14 [.int .i64 n] [] (fun v H' => ∃ b h', v = .pointer (some ⟨b, 0, none⟩) ∧ H' = [h'] ∧ WAt 92 b (List.replicate (newN n) 0) h') := by
  refine Ct.mk' Try.func14 rfl rfl rfl (fun g R => ?_)
  try simp only [List.cons_append]
  simp only [List.nil_append]
  repeat' (first
  | refine W.seq ?_ | refine W.region ?_ | refine WX.nil ?_ | refine D.seq ?_ | refine W.block ?_ | refine D.blk ?_ | refine W.skip ?_ | refine W.exit ?_ | refine W.ret ?_
  | refine WM.nil ?_ | refine WM.un ?_ | refine WM.an ?_ | refine WM.backU ?_ | refine WM.back ?_
  | refine D.blkX ?_ | refine D.blkY rfl ?_ | refine D.roundX ?_ | refine D.roundR ?_ | refine D.blkR ?_
  | (refine I.gd ?_; first | refine WX.gy rfl rfl ?_ | refine WX.gn rfl rfl rfl rfl ?_ | refine WX.gnN rfl rfl rfl ?_ | refine WX.gT rfl rfl (by first | assumption | omega) ?_ | refine WX.gF rfl rfl (by first | assumption | omega) ?_ | refine WX.gS rfl rfl (fun _ => ?_) (fun _ => ?_))
  | (refine I.cond ?_; first | refine W.condT rfl ?_ | refine W.condF rfl ?_ | refine W.condP rfl (by first | assumption | omega) ?_ | refine W.condN rfl (by first | assumption | omega) ?_)
  | (refine I.mv ?_; refine WX.move rfl rfl ?_) | (refine I.as ?_; refine WX.assign rfl rfl ?_)
  | (refine I.nc ?_; first | refine WX.nilCheck rfl rfl ?_ | refine WX.nilE rfl (by assumption) (by assumption) rfl ?_)
  | (refine I.fa ?_; first | refine WX.fieldAddr rfl rfl ?_ | refine WX.fieldE rfl (by assumption) (by assumption) rfl ?_)
  | (refine I.ld ?_; first | refine WX.load rfl rfl rfl ?_ | refine WX.loadE rfl (by assumption) (by assumption) rfl rfl rfl ?_ | refine WX.loadA rfl rfl rfl rfl ?_)
  | (refine I.bin ?_; first | refine WX.lss rfl rfl rfl ?_ | refine WX.eql rfl rfl rfl ?_ | refine WX.neq rfl rfl rfl ?_ | refine WX.leq rfl rfl rfl ?_ | refine WX.gtr rfl rfl rfl ?_ | refine WX.geq rfl rfl rfl ?_ | refine WX.add rfl rfl rfl (by omega) ?_ | refine WX.sub' rfl rfl rfl (by omega) ?_ | refine WX.eqPN rfl rfl rfl ?_ | refine WX.nePN rfl rfl rfl ?_ | refine WX.eqNN rfl rfl rfl ?_ | refine WX.neNN rfl rfl rfl ?_)
  | (refine I.un ?_; first | refine WX.notD rfl rfl ?_ | refine WX.not rfl rfl ?_)
  | (refine I.pk ?_; first | refine WX.pickT rfl rfl rfl ?_ | refine WX.pickF rfl rfl rfl ?_)
  | (refine I.bi ?_; first | refine WX.lenSl rfl (by assumption) rfl ?_ | refine WX.len rfl rfl ?_ | refine WX.lenS rfl rfl ?_ | refine WX.min rfl rfl rfl ?_ | refine WX.max rfl rfl rfl ?_)
  | (refine I.ix ?_; first | refine WX.idx rfl rfl (by assumption) (by assumption) rfl ?_ | refine WX.idxI rfl rfl (by assumption) (by omega) (by assumption) rfl ?_)
  | (refine I.sl ?_; refine WX.slTo rfl rfl (by assumption) (by omega) rfl ?_)
  | (refine I.st ?_; first | (refine WX.store rfl rfl rfl rfl ?_; try simp only [List.set_cons_zero, List.set_cons_succ, Nat.reduceAdd]) | (refine WX.storeG rfl rfl rfl rfl rfl rfl ?_; try simp only [setAt, List.set_cons_zero, List.set_cons_succ, Nat.reduceAdd]))
  | (refine I.bd ?_; refine WX.build rfl rfl rfl ?_; try simp only [setAt, Value.cells, List.set_cons_zero, List.set_cons_succ]) | (refine I.bx ?_; refine WX.box rfl rfl rfl (fun _ => ?_)) | (refine I.al ?_; refine WX.alloc rfl (fun _ => ?_)) | (refine I.ex ?_; refine WX.extract rfl rfl rfl ?_))
  have hle := newN_le n
  refine WX.as 5 (.int .i64 (newN n : Int)) rfl (by congr 1; unfold newN; split <;> omega) ?_
  refine WX.make (z := (0 : Int)) rfl rfl rfl rfl (Nat.le_refl _) (by omega) (by omega) rfl (fun v h1 hs1 => ?_)
  obtain ⟨p, c, hv⟩ := hs1.rs.len
  subst hv
  repeat' (first
  | refine W.seq ?_ | refine W.region ?_ | refine WX.nil ?_ | refine D.seq ?_ | refine W.block ?_ | refine D.blk ?_ | refine W.skip ?_ | refine W.exit ?_ | refine W.ret ?_
  | refine WM.nil ?_ | refine WM.un ?_ | refine WM.an ?_ | refine WM.backU ?_ | refine WM.back ?_
  | refine D.blkX ?_ | refine D.blkY rfl ?_ | refine D.roundX ?_ | refine D.roundR ?_ | refine D.blkR ?_
  | (refine I.gd ?_; first | refine WX.gy rfl rfl ?_ | refine WX.gn rfl rfl rfl rfl ?_ | refine WX.gnN rfl rfl rfl ?_ | refine WX.gT rfl rfl (by first | assumption | omega) ?_ | refine WX.gF rfl rfl (by first | assumption | omega) ?_ | refine WX.gS rfl rfl (fun _ => ?_) (fun _ => ?_))
  | (refine I.cond ?_; first | refine W.condT rfl ?_ | refine W.condF rfl ?_ | refine W.condP rfl (by first | assumption | omega) ?_ | refine W.condN rfl (by first | assumption | omega) ?_)
  | (refine I.mv ?_; refine WX.move rfl rfl ?_) | (refine I.as ?_; refine WX.assign rfl rfl ?_)
  | (refine I.nc ?_; first | refine WX.nilCheck rfl rfl ?_ | refine WX.nilE rfl (by assumption) (by assumption) rfl ?_)
  | (refine I.fa ?_; first | refine WX.fieldAddr rfl rfl ?_ | refine WX.fieldE rfl (by assumption) (by assumption) rfl ?_)
  | (refine I.ld ?_; first | refine WX.load rfl rfl rfl ?_ | refine WX.loadE rfl (by assumption) (by assumption) rfl rfl rfl ?_ | refine WX.loadA rfl rfl rfl rfl ?_)
  | (refine I.bin ?_; first | refine WX.lss rfl rfl rfl ?_ | refine WX.eql rfl rfl rfl ?_ | refine WX.neq rfl rfl rfl ?_ | refine WX.leq rfl rfl rfl ?_ | refine WX.gtr rfl rfl rfl ?_ | refine WX.geq rfl rfl rfl ?_ | refine WX.add rfl rfl rfl (by omega) ?_ | refine WX.sub' rfl rfl rfl (by omega) ?_ | refine WX.eqPN rfl rfl rfl ?_ | refine WX.nePN rfl rfl rfl ?_ | refine WX.eqNN rfl rfl rfl ?_ | refine WX.neNN rfl rfl rfl ?_)
  | (refine I.un ?_; first | refine WX.notD rfl rfl ?_ | refine WX.not rfl rfl ?_)
  | (refine I.pk ?_; first | refine WX.pickT rfl rfl rfl ?_ | refine WX.pickF rfl rfl rfl ?_)
  | (refine I.bi ?_; first | refine WX.lenSl rfl (by assumption) rfl ?_ | refine WX.len rfl rfl ?_ | refine WX.lenS rfl rfl ?_ | refine WX.min rfl rfl rfl ?_ | refine WX.max rfl rfl rfl ?_)
  | (refine I.ix ?_; first | refine WX.idx rfl rfl (by assumption) (by assumption) rfl ?_ | refine WX.idxI rfl rfl (by assumption) (by omega) (by assumption) rfl ?_)
  | (refine I.sl ?_; refine WX.slTo rfl rfl (by assumption) (by omega) rfl ?_)
  | (refine I.st ?_; first | (refine WX.store rfl rfl rfl rfl ?_; try simp only [List.set_cons_zero, List.set_cons_succ, Nat.reduceAdd]) | (refine WX.storeG rfl rfl rfl rfl rfl rfl ?_; try simp only [setAt, List.set_cons_zero, List.set_cons_succ, Nat.reduceAdd]))
  | (refine I.bd ?_; refine WX.build rfl rfl rfl ?_; try simp only [setAt, Value.cells, List.set_cons_zero, List.set_cons_succ]) | (refine I.bx ?_; refine WX.box rfl rfl rfl (fun _ => ?_)) | (refine I.al ?_; refine WX.alloc rfl (fun _ => ?_)) | (refine I.ex ?_; refine WX.extract rfl rfl rfl ?_))
  rename_i b
  exact D.fin1 [(b, .cells (List.toArray [.slice p (List.replicate (newN n) (0 : Int)).length c]) 92 (0, 0)) :: h1] _ rfl rfl ⟨b, _, rfl, rfl, _, h1, rfl, hs1⟩
end Go.Proofs.Ytllopddalmdbjaa
