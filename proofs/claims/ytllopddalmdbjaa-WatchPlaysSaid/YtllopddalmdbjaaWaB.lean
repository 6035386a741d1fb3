/-
  watch: what the document's own functions, and the small ones of the statements, do.
-/
import Derived.Test.YtllopddalmdbjaaWaA
set_option linter.unusedVariables false
set_option linter.unusedSimpArgs false
namespace Go.Proofs.Ytllopddalmdbjaa
open Go Go.Sl

theorem rheard_ct {b : Nat} {xs is : List Int} {u : Value} {h hi : Hp} (hw : WAt 37 b xs h) (hs : Rs is u hi) (hb : is.length ≤ 1000000) :
    Ct Try.prog 19 [.pointer (some ⟨b, 0, none⟩), u] [h, hi] (fun v H' => v = .tuple #[] ∧ ∃ h', H' = [h', hi] ∧ WAt 37 b (heardL xs is) h') := by
  refine Ct.mk' Try.func19 rfl rfl rfl (fun g R => ?_)
  try simp only [List.cons_append]
  simp only [List.nil_append]
  repeat' (first
  | refine W.seq ?_ | refine W.region ?_ | refine WX.nil ?_ | refine D.seq ?_ | refine W.block ?_ | refine D.blk ?_ | refine W.skip ?_ | refine W.exit ?_ | refine W.ret ?_
  | refine WM.nil ?_ | refine WM.un ?_ | refine WM.an ?_ | refine WM.backU ?_ | refine WM.back ?_
  | refine D.blkX ?_ | refine D.blkY rfl ?_ | refine D.roundX ?_ | refine D.roundR ?_ | refine D.blkR ?_
  | (refine I.gd ?_; first | refine WX.gy rfl rfl ?_ | refine WX.gn rfl rfl rfl rfl ?_ | refine WX.gnN rfl rfl rfl ?_ | refine WX.gT rfl rfl (by first | assumption | omega) ?_ | refine WX.gF rfl rfl (by first | assumption | omega) ?_ | refine WX.gS rfl rfl (fun _ => ?_) (fun _ => ?_))
  | (refine I.cond ?_; first | refine W.condT rfl ?_ | refine W.condF rfl ?_ | refine W.condP rfl (by first | assumption | omega) ?_ | refine W.condN rfl (by first | assumption | omega) ?_)
  | (refine I.mv ?_; refine WX.move rfl rfl ?_) | (refine I.as ?_; refine WX.assign rfl rfl ?_)
  | (refine I.nc ?_; first | refine WX.nilCheck rfl rfl ?_ | refine WX.nilE rfl (by assumption) (by assumption) rfl ?_)
  | (refine I.fa ?_; first | refine WX.fieldAddr rfl rfl ?_ | refine WX.fieldE rfl (by assumption) (by assumption) rfl ?_)
  | (refine I.ld ?_; first | refine WX.load rfl rfl rfl ?_ | refine WX.loadE rfl (by assumption) (by assumption) rfl rfl rfl ?_ | refine WX.loadA rfl rfl rfl rfl ?_)
  | (refine I.bin ?_; first | refine WX.lss rfl rfl rfl ?_ | refine WX.eql rfl rfl rfl ?_ | refine WX.neq rfl rfl rfl ?_ | refine WX.leq rfl rfl rfl ?_ | refine WX.gtr rfl rfl rfl ?_ | refine WX.geq rfl rfl rfl ?_ | refine WX.add rfl rfl rfl (by omega) ?_ | refine WX.sub' rfl rfl rfl (by omega) ?_ | refine WX.eqPN rfl rfl rfl ?_ | refine WX.nePN rfl rfl rfl ?_ | refine WX.eqNN rfl rfl rfl ?_ | refine WX.neNN rfl rfl rfl ?_)
  | (refine I.un ?_; first | refine WX.notD rfl rfl ?_ | refine WX.not rfl rfl ?_)
  | (refine I.pk ?_; first | refine WX.pickT rfl rfl rfl ?_ | refine WX.pickF rfl rfl rfl ?_)
  | (refine I.bi ?_; first | refine WX.lenSl rfl (by assumption) rfl ?_ | refine WX.len rfl rfl ?_ | refine WX.lenS rfl rfl ?_ | refine WX.min rfl rfl rfl ?_ | refine WX.max rfl rfl rfl ?_)
  | (refine I.ix ?_; first | refine WX.idx rfl rfl (by assumption) (by assumption) rfl ?_ | refine WX.idxI rfl rfl (by assumption) (by omega) (by assumption) rfl ?_)
  | (refine I.sl ?_; refine WX.slTo rfl rfl (by assumption) (by omega) rfl ?_)
  | (refine I.st ?_; first | (refine WX.store rfl rfl rfl rfl ?_; try simp only [List.set_cons_zero, List.set_cons_succ, Nat.reduceAdd]) | (refine WX.storeG rfl rfl rfl rfl rfl rfl ?_; try simp only [setAt, List.set_cons_zero, List.set_cons_succ, Nat.reduceAdd]))
  | (refine I.bd ?_; refine WX.build rfl rfl rfl ?_; try simp only [setAt, Value.cells, List.set_cons_zero, List.set_cons_succ]) | (refine I.bx ?_; refine WX.box rfl rfl rfl (fun _ => ?_)) | (refine I.al ?_; refine WX.alloc rfl (fun _ => ?_)) | (refine I.ex ?_; refine WX.extract rfl rfl rfl ?_))
  refine W.loop (α := Nat × Hp) (fun x => x.1 ≤ is.length ∧ WAt 37 b (heardL xs (is.take x.1)) x.2)
    (fun x => [(0, .pointer (some ⟨b, 0, none⟩)), (1, u), (4, .int .i64 (x.1 : Int))]) (fun x => [x.2, hi, R]) (fun x => is.length - x.1) (0, h) ⟨by omega, by simpa [heardL] using hw⟩ (by repeat (first | exact Fsub.nil | refine Fsub.cons rfl ?_)) (Hsub.of_picks inferInstance) ?_
  rintro ⟨k, h'⟩ ⟨hk, hw'⟩
  simp only [] at hk hw' ⊢
  obtain ⟨v, hv, rfl, hs'⟩ := hw'
  have hr' := hs'.rs
  by_cases hlt : k < is.length
  · obtain ⟨i, hki⟩ : ∃ i, is[k]? = some i := ⟨_, List.getElem?_eq_getElem hlt⟩
    repeat' (first
  | refine W.seq ?_ | refine W.region ?_ | refine WX.nil ?_ | refine D.seq ?_ | refine W.block ?_ | refine D.blk ?_ | refine W.skip ?_ | refine W.exit ?_ | refine W.ret ?_
  | refine WM.nil ?_ | refine WM.un ?_ | refine WM.an ?_ | refine WM.backU ?_ | refine WM.back ?_
  | refine D.blkX ?_ | refine D.blkY rfl ?_ | refine D.roundX ?_ | refine D.roundR ?_ | refine D.blkR ?_
  | (refine I.gd ?_; first | refine WX.gy rfl rfl ?_ | refine WX.gn rfl rfl rfl rfl ?_ | refine WX.gnN rfl rfl rfl ?_ | refine WX.gT rfl rfl (by first | assumption | omega) ?_ | refine WX.gF rfl rfl (by first | assumption | omega) ?_ | refine WX.gS rfl rfl (fun _ => ?_) (fun _ => ?_))
  | (refine I.cond ?_; first | refine W.condT rfl ?_ | refine W.condF rfl ?_ | refine W.condP rfl (by first | assumption | omega) ?_ | refine W.condN rfl (by first | assumption | omega) ?_)
  | (refine I.mv ?_; refine WX.move rfl rfl ?_) | (refine I.as ?_; refine WX.assign rfl rfl ?_)
  | (refine I.nc ?_; first | refine WX.nilCheck rfl rfl ?_ | refine WX.nilE rfl (by assumption) (by assumption) rfl ?_)
  | (refine I.fa ?_; first | refine WX.fieldAddr rfl rfl ?_ | refine WX.fieldE rfl (by assumption) (by assumption) rfl ?_)
  | (refine I.ld ?_; first | refine WX.load rfl rfl rfl ?_ | refine WX.loadE rfl (by assumption) (by assumption) rfl rfl rfl ?_ | refine WX.loadA rfl rfl rfl rfl ?_)
  | (refine I.bin ?_; first | refine WX.lss rfl rfl rfl ?_ | refine WX.eql rfl rfl rfl ?_ | refine WX.neq rfl rfl rfl ?_ | refine WX.leq rfl rfl rfl ?_ | refine WX.gtr rfl rfl rfl ?_ | refine WX.geq rfl rfl rfl ?_ | refine WX.add rfl rfl rfl (by omega) ?_ | refine WX.sub' rfl rfl rfl (by omega) ?_ | refine WX.eqPN rfl rfl rfl ?_ | refine WX.nePN rfl rfl rfl ?_ | refine WX.eqNN rfl rfl rfl ?_ | refine WX.neNN rfl rfl rfl ?_)
  | (refine I.un ?_; first | refine WX.notD rfl rfl ?_ | refine WX.not rfl rfl ?_)
  | (refine I.pk ?_; first | refine WX.pickT rfl rfl rfl ?_ | refine WX.pickF rfl rfl rfl ?_)
  | (refine I.bi ?_; first | refine WX.lenSl rfl (by assumption) rfl ?_ | refine WX.len rfl rfl ?_ | refine WX.lenS rfl rfl ?_ | refine WX.min rfl rfl rfl ?_ | refine WX.max rfl rfl rfl ?_)
  | (refine I.ix ?_; first | refine WX.idx rfl rfl (by assumption) (by assumption) rfl ?_ | refine WX.idxI rfl rfl (by assumption) (by omega) (by assumption) rfl ?_)
  | (refine I.sl ?_; refine WX.slTo rfl rfl (by assumption) (by omega) rfl ?_)
  | (refine I.st ?_; first | (refine WX.store rfl rfl rfl rfl ?_; try simp only [List.set_cons_zero, List.set_cons_succ, Nat.reduceAdd]) | (refine WX.storeG rfl rfl rfl rfl rfl rfl ?_; try simp only [setAt, List.set_cons_zero, List.set_cons_succ, Nat.reduceAdd]))
  | (refine I.bd ?_; refine WX.build rfl rfl rfl ?_; try simp only [setAt, Value.cells, List.set_cons_zero, List.set_cons_succ]) | (refine I.bx ?_; refine WX.box rfl rfl rfl (fun _ => ?_)) | (refine I.al ?_; refine WX.alloc rfl (fun _ => ?_)) | (refine I.ex ?_; refine WX.extract rfl rfl rfl ?_))
    by_cases hc : 0 ≤ i ∧ i < (heardL xs (is.take k)).length
    · have hc' := hc
      obtain ⟨h0, h1⟩ := hc
      obtain ⟨y, hy⟩ : ∃ y, (heardL xs (is.take k))[i.toNat]? = some y := ⟨_, List.getElem?_eq_getElem (by omega)⟩
      refine W.quiet Try.mix (by kernel_rfl) ?_
      repeat' (first
  | refine W.seq ?_ | refine W.region ?_ | refine WX.nil ?_ | refine D.seq ?_ | refine W.block ?_ | refine D.blk ?_ | refine W.skip ?_ | refine W.exit ?_ | refine W.ret ?_
  | refine WM.nil ?_ | refine WM.un ?_ | refine WM.an ?_ | refine WM.backU ?_ | refine WM.back ?_
  | refine D.blkX ?_ | refine D.blkY rfl ?_ | refine D.roundX ?_ | refine D.roundR ?_ | refine D.blkR ?_
  | (refine I.gd ?_; first | refine WX.gy rfl rfl ?_ | refine WX.gn rfl rfl rfl rfl ?_ | refine WX.gnN rfl rfl rfl ?_ | refine WX.gT rfl rfl (by first | assumption | omega) ?_ | refine WX.gF rfl rfl (by first | assumption | omega) ?_ | refine WX.gS rfl rfl (fun _ => ?_) (fun _ => ?_))
  | (refine I.cond ?_; first | refine W.condT rfl ?_ | refine W.condF rfl ?_ | refine W.condP rfl (by first | assumption | omega) ?_ | refine W.condN rfl (by first | assumption | omega) ?_)
  | (refine I.mv ?_; refine WX.move rfl rfl ?_) | (refine I.as ?_; refine WX.assign rfl rfl ?_)
  | (refine I.nc ?_; first | refine WX.nilCheck rfl rfl ?_ | refine WX.nilE rfl (by assumption) (by assumption) rfl ?_)
  | (refine I.fa ?_; first | refine WX.fieldAddr rfl rfl ?_ | refine WX.fieldE rfl (by assumption) (by assumption) rfl ?_)
  | (refine I.ld ?_; first | refine WX.load rfl rfl rfl ?_ | refine WX.loadE rfl (by assumption) (by assumption) rfl rfl rfl ?_ | refine WX.loadA rfl rfl rfl rfl ?_)
  | (refine I.bin ?_; first | refine WX.lss rfl rfl rfl ?_ | refine WX.eql rfl rfl rfl ?_ | refine WX.neq rfl rfl rfl ?_ | refine WX.leq rfl rfl rfl ?_ | refine WX.gtr rfl rfl rfl ?_ | refine WX.geq rfl rfl rfl ?_ | refine WX.add rfl rfl rfl (by omega) ?_ | refine WX.sub' rfl rfl rfl (by omega) ?_ | refine WX.eqPN rfl rfl rfl ?_ | refine WX.nePN rfl rfl rfl ?_ | refine WX.eqNN rfl rfl rfl ?_ | refine WX.neNN rfl rfl rfl ?_)
  | (refine I.un ?_; first | refine WX.notD rfl rfl ?_ | refine WX.not rfl rfl ?_)
  | (refine I.pk ?_; first | refine WX.pickT rfl rfl rfl ?_ | refine WX.pickF rfl rfl rfl ?_)
  | (refine I.bi ?_; first | refine WX.lenSl rfl (by assumption) rfl ?_ | refine WX.len rfl rfl ?_ | refine WX.lenS rfl rfl ?_ | refine WX.min rfl rfl rfl ?_ | refine WX.max rfl rfl rfl ?_)
  | (refine I.ix ?_; first | refine WX.idx rfl rfl (by assumption) (by assumption) rfl ?_ | refine WX.idxI rfl rfl (by assumption) (by omega) (by assumption) rfl ?_)
  | (refine I.sl ?_; refine WX.slTo rfl rfl (by assumption) (by omega) rfl ?_)
  | (refine I.st ?_; first | (refine WX.store rfl rfl rfl rfl ?_; try simp only [List.set_cons_zero, List.set_cons_succ, Nat.reduceAdd]) | (refine WX.storeG rfl rfl rfl rfl rfl rfl ?_; try simp only [setAt, List.set_cons_zero, List.set_cons_succ, Nat.reduceAdd]))
  | (refine I.bd ?_; refine WX.build rfl rfl rfl ?_; try simp only [setAt, Value.cells, List.set_cons_zero, List.set_cons_succ]) | (refine I.bx ?_; refine WX.box rfl rfl rfl (fun _ => ?_)) | (refine I.al ?_; refine WX.alloc rfl (fun _ => ?_)) | (refine I.ex ?_; refine WX.extract rfl rfl rfl ?_))
      refine W.mix (List.replicate 9 true) [[(b, .cells (List.toArray [v]) 37 (0, 0))], hv, hi] Try.mix (by kernel_rfl) ?_
      repeat' (first
  | refine W.seq ?_ | refine W.region ?_ | refine WX.nil ?_ | refine D.seq ?_ | refine W.block ?_ | refine D.blk ?_ | refine W.skip ?_ | refine W.exit ?_ | refine W.ret ?_
  | refine WM.nil ?_ | refine WM.un ?_ | refine WM.an ?_ | refine WM.backU ?_ | refine WM.back ?_
  | refine D.blkX ?_ | refine D.blkY rfl ?_ | refine D.roundX ?_ | refine D.roundR ?_ | refine D.blkR ?_
  | (refine I.gd ?_; first | refine WX.gy rfl rfl ?_ | refine WX.gn rfl rfl rfl rfl ?_ | refine WX.gnN rfl rfl rfl ?_ | refine WX.gT rfl rfl (by first | assumption | omega) ?_ | refine WX.gF rfl rfl (by first | assumption | omega) ?_ | refine WX.gS rfl rfl (fun _ => ?_) (fun _ => ?_))
  | (refine I.cond ?_; first | refine W.condT rfl ?_ | refine W.condF rfl ?_ | refine W.condP rfl (by first | assumption | omega) ?_ | refine W.condN rfl (by first | assumption | omega) ?_)
  | (refine I.mv ?_; refine WX.move rfl rfl ?_) | (refine I.as ?_; refine WX.assign rfl rfl ?_)
  | (refine I.nc ?_; first | refine WX.nilCheck rfl rfl ?_ | refine WX.nilE rfl (by assumption) (by assumption) rfl ?_)
  | (refine I.fa ?_; first | refine WX.fieldAddr rfl rfl ?_ | refine WX.fieldE rfl (by assumption) (by assumption) rfl ?_)
  | (refine I.ld ?_; first | refine WX.load rfl rfl rfl ?_ | refine WX.loadE rfl (by assumption) (by assumption) rfl rfl rfl ?_ | refine WX.loadA rfl rfl rfl rfl ?_)
  | (refine I.bin ?_; first | refine WX.lss rfl rfl rfl ?_ | refine WX.eql rfl rfl rfl ?_ | refine WX.neq rfl rfl rfl ?_ | refine WX.leq rfl rfl rfl ?_ | refine WX.gtr rfl rfl rfl ?_ | refine WX.geq rfl rfl rfl ?_ | refine WX.add rfl rfl rfl (by omega) ?_ | refine WX.sub' rfl rfl rfl (by omega) ?_ | refine WX.eqPN rfl rfl rfl ?_ | refine WX.nePN rfl rfl rfl ?_ | refine WX.eqNN rfl rfl rfl ?_ | refine WX.neNN rfl rfl rfl ?_)
  | (refine I.un ?_; first | refine WX.notD rfl rfl ?_ | refine WX.not rfl rfl ?_)
  | (refine I.pk ?_; first | refine WX.pickT rfl rfl rfl ?_ | refine WX.pickF rfl rfl rfl ?_)
  | (refine I.bi ?_; first | refine WX.lenSl rfl (by assumption) rfl ?_ | refine WX.len rfl rfl ?_ | refine WX.lenS rfl rfl ?_ | refine WX.min rfl rfl rfl ?_ | refine WX.max rfl rfl rfl ?_)
  | (refine I.ix ?_; first | refine WX.idx rfl rfl (by assumption) (by assumption) rfl ?_ | refine WX.idxI rfl rfl (by assumption) (by omega) (by assumption) rfl ?_)
  | (refine I.sl ?_; refine WX.slTo rfl rfl (by assumption) (by omega) rfl ?_)
  | (refine I.st ?_; first | (refine WX.store rfl rfl rfl rfl ?_; try simp only [List.set_cons_zero, List.set_cons_succ, Nat.reduceAdd]) | (refine WX.storeG rfl rfl rfl rfl rfl rfl ?_; try simp only [setAt, List.set_cons_zero, List.set_cons_succ, Nat.reduceAdd]))
  | (refine I.bd ?_; refine WX.build rfl rfl rfl ?_; try simp only [setAt, Value.cells, List.set_cons_zero, List.set_cons_succ]) | (refine I.bx ?_; refine WX.box rfl rfl rfl (fun _ => ?_)) | (refine I.al ?_; refine WX.alloc rfl (fun _ => ?_)) | (refine I.ex ?_; refine WX.extract rfl rfl rfl ?_))
      refine WX.storeE (y' := 0) rfl rfl rfl hs' hy rfl rfl rfl rfl rfl (fun h2 hs2 => ?_)
      repeat' (first
  | refine W.seq ?_ | refine W.region ?_ | refine WX.nil ?_ | refine D.seq ?_ | refine W.block ?_ | refine D.blk ?_ | refine W.skip ?_ | refine W.exit ?_ | refine W.ret ?_
  | refine WM.nil ?_ | refine WM.un ?_ | refine WM.an ?_ | refine WM.backU ?_ | refine WM.back ?_
  | refine D.blkX ?_ | refine D.blkY rfl ?_ | refine D.roundX ?_ | refine D.roundR ?_ | refine D.blkR ?_
  | (refine I.gd ?_; first | refine WX.gy rfl rfl ?_ | refine WX.gn rfl rfl rfl rfl ?_ | refine WX.gnN rfl rfl rfl ?_ | refine WX.gT rfl rfl (by first | assumption | omega) ?_ | refine WX.gF rfl rfl (by first | assumption | omega) ?_ | refine WX.gS rfl rfl (fun _ => ?_) (fun _ => ?_))
  | (refine I.cond ?_; first | refine W.condT rfl ?_ | refine W.condF rfl ?_ | refine W.condP rfl (by first | assumption | omega) ?_ | refine W.condN rfl (by first | assumption | omega) ?_)
  | (refine I.mv ?_; refine WX.move rfl rfl ?_) | (refine I.as ?_; refine WX.assign rfl rfl ?_)
  | (refine I.nc ?_; first | refine WX.nilCheck rfl rfl ?_ | refine WX.nilE rfl (by assumption) (by assumption) rfl ?_)
  | (refine I.fa ?_; first | refine WX.fieldAddr rfl rfl ?_ | refine WX.fieldE rfl (by assumption) (by assumption) rfl ?_)
  | (refine I.ld ?_; first | refine WX.load rfl rfl rfl ?_ | refine WX.loadE rfl (by assumption) (by assumption) rfl rfl rfl ?_ | refine WX.loadA rfl rfl rfl rfl ?_)
  | (refine I.bin ?_; first | refine WX.lss rfl rfl rfl ?_ | refine WX.eql rfl rfl rfl ?_ | refine WX.neq rfl rfl rfl ?_ | refine WX.leq rfl rfl rfl ?_ | refine WX.gtr rfl rfl rfl ?_ | refine WX.geq rfl rfl rfl ?_ | refine WX.add rfl rfl rfl (by omega) ?_ | refine WX.sub' rfl rfl rfl (by omega) ?_ | refine WX.eqPN rfl rfl rfl ?_ | refine WX.nePN rfl rfl rfl ?_ | refine WX.eqNN rfl rfl rfl ?_ | refine WX.neNN rfl rfl rfl ?_)
  | (refine I.un ?_; first | refine WX.notD rfl rfl ?_ | refine WX.not rfl rfl ?_)
  | (refine I.pk ?_; first | refine WX.pickT rfl rfl rfl ?_ | refine WX.pickF rfl rfl rfl ?_)
  | (refine I.bi ?_; first | refine WX.lenSl rfl (by assumption) rfl ?_ | refine WX.len rfl rfl ?_ | refine WX.lenS rfl rfl ?_ | refine WX.min rfl rfl rfl ?_ | refine WX.max rfl rfl rfl ?_)
  | (refine I.ix ?_; first | refine WX.idx rfl rfl (by assumption) (by assumption) rfl ?_ | refine WX.idxI rfl rfl (by assumption) (by omega) (by assumption) rfl ?_)
  | (refine I.sl ?_; refine WX.slTo rfl rfl (by assumption) (by omega) rfl ?_)
  | (refine I.st ?_; first | (refine WX.store rfl rfl rfl rfl ?_; try simp only [List.set_cons_zero, List.set_cons_succ, Nat.reduceAdd]) | (refine WX.storeG rfl rfl rfl rfl rfl rfl ?_; try simp only [setAt, List.set_cons_zero, List.set_cons_succ, Nat.reduceAdd]))
  | (refine I.bd ?_; refine WX.build rfl rfl rfl ?_; try simp only [setAt, Value.cells, List.set_cons_zero, List.set_cons_succ]) | (refine I.bx ?_; refine WX.box rfl rfl rfl (fun _ => ?_)) | (refine I.al ?_; refine WX.alloc rfl (fun _ => ?_)) | (refine I.ex ?_; refine WX.extract rfl rfl rfl ?_))
      refine D.round (k + 1, (b, .cells (List.toArray [v]) 37 (0, 0)) :: h2) ⟨by simp only []; omega, ?_⟩ (by simp only []; omega) (by repeat (first | exact Fsub.nil | refine Fsub.cons rfl ?_)) (Hsub.of_picks inferInstance)
      simp only []
      rw [heardL_snoc hki, heard1, if_pos hc']
      exact ⟨_, _, rfl, hs2⟩
    · refine W.quiet Try.mix (by kernel_rfl) ?_
      repeat' (first
  | refine W.seq ?_ | refine W.region ?_ | refine WX.nil ?_ | refine D.seq ?_ | refine W.block ?_ | refine D.blk ?_ | refine W.skip ?_ | refine W.exit ?_ | refine W.ret ?_
  | refine WM.nil ?_ | refine WM.un ?_ | refine WM.an ?_ | refine WM.backU ?_ | refine WM.back ?_
  | refine D.blkX ?_ | refine D.blkY rfl ?_ | refine D.roundX ?_ | refine D.roundR ?_ | refine D.blkR ?_
  | (refine I.gd ?_; first | refine WX.gy rfl rfl ?_ | refine WX.gn rfl rfl rfl rfl ?_ | refine WX.gnN rfl rfl rfl ?_ | refine WX.gT rfl rfl (by first | assumption | omega) ?_ | refine WX.gF rfl rfl (by first | assumption | omega) ?_ | refine WX.gS rfl rfl (fun _ => ?_) (fun _ => ?_))
  | (refine I.cond ?_; first | refine W.condT rfl ?_ | refine W.condF rfl ?_ | refine W.condP rfl (by first | assumption | omega) ?_ | refine W.condN rfl (by first | assumption | omega) ?_)
  | (refine I.mv ?_; refine WX.move rfl rfl ?_) | (refine I.as ?_; refine WX.assign rfl rfl ?_)
  | (refine I.nc ?_; first | refine WX.nilCheck rfl rfl ?_ | refine WX.nilE rfl (by assumption) (by assumption) rfl ?_)
  | (refine I.fa ?_; first | refine WX.fieldAddr rfl rfl ?_ | refine WX.fieldE rfl (by assumption) (by assumption) rfl ?_)
  | (refine I.ld ?_; first | refine WX.load rfl rfl rfl ?_ | refine WX.loadE rfl (by assumption) (by assumption) rfl rfl rfl ?_ | refine WX.loadA rfl rfl rfl rfl ?_)
  | (refine I.bin ?_; first | refine WX.lss rfl rfl rfl ?_ | refine WX.eql rfl rfl rfl ?_ | refine WX.neq rfl rfl rfl ?_ | refine WX.leq rfl rfl rfl ?_ | refine WX.gtr rfl rfl rfl ?_ | refine WX.geq rfl rfl rfl ?_ | refine WX.add rfl rfl rfl (by omega) ?_ | refine WX.sub' rfl rfl rfl (by omega) ?_ | refine WX.eqPN rfl rfl rfl ?_ | refine WX.nePN rfl rfl rfl ?_ | refine WX.eqNN rfl rfl rfl ?_ | refine WX.neNN rfl rfl rfl ?_)
  | (refine I.un ?_; first | refine WX.notD rfl rfl ?_ | refine WX.not rfl rfl ?_)
  | (refine I.pk ?_; first | refine WX.pickT rfl rfl rfl ?_ | refine WX.pickF rfl rfl rfl ?_)
  | (refine I.bi ?_; first | refine WX.lenSl rfl (by assumption) rfl ?_ | refine WX.len rfl rfl ?_ | refine WX.lenS rfl rfl ?_ | refine WX.min rfl rfl rfl ?_ | refine WX.max rfl rfl rfl ?_)
  | (refine I.ix ?_; first | refine WX.idx rfl rfl (by assumption) (by assumption) rfl ?_ | refine WX.idxI rfl rfl (by assumption) (by omega) (by assumption) rfl ?_)
  | (refine I.sl ?_; refine WX.slTo rfl rfl (by assumption) (by omega) rfl ?_)
  | (refine I.st ?_; first | (refine WX.store rfl rfl rfl rfl ?_; try simp only [List.set_cons_zero, List.set_cons_succ, Nat.reduceAdd]) | (refine WX.storeG rfl rfl rfl rfl rfl rfl ?_; try simp only [setAt, List.set_cons_zero, List.set_cons_succ, Nat.reduceAdd]))
  | (refine I.bd ?_; refine WX.build rfl rfl rfl ?_; try simp only [setAt, Value.cells, List.set_cons_zero, List.set_cons_succ]) | (refine I.bx ?_; refine WX.box rfl rfl rfl (fun _ => ?_)) | (refine I.al ?_; refine WX.alloc rfl (fun _ => ?_)) | (refine I.ex ?_; refine WX.extract rfl rfl rfl ?_))
      · have h2 : ¬ i < (heardL xs (is.take k)).length := fun h => hc ⟨by assumption, h⟩
        repeat' (first
  | refine W.seq ?_ | refine W.region ?_ | refine WX.nil ?_ | refine D.seq ?_ | refine W.block ?_ | refine D.blk ?_ | refine W.skip ?_ | refine W.exit ?_ | refine W.ret ?_
  | refine WM.nil ?_ | refine WM.un ?_ | refine WM.an ?_ | refine WM.backU ?_ | refine WM.back ?_
  | refine D.blkX ?_ | refine D.blkY rfl ?_ | refine D.roundX ?_ | refine D.roundR ?_ | refine D.blkR ?_
  | (refine I.gd ?_; first | refine WX.gy rfl rfl ?_ | refine WX.gn rfl rfl rfl rfl ?_ | refine WX.gnN rfl rfl rfl ?_ | refine WX.gT rfl rfl (by first | assumption | omega) ?_ | refine WX.gF rfl rfl (by first | assumption | omega) ?_ | refine WX.gS rfl rfl (fun _ => ?_) (fun _ => ?_))
  | (refine I.cond ?_; first | refine W.condT rfl ?_ | refine W.condF rfl ?_ | refine W.condP rfl (by first | assumption | omega) ?_ | refine W.condN rfl (by first | assumption | omega) ?_)
  | (refine I.mv ?_; refine WX.move rfl rfl ?_) | (refine I.as ?_; refine WX.assign rfl rfl ?_)
  | (refine I.nc ?_; first | refine WX.nilCheck rfl rfl ?_ | refine WX.nilE rfl (by assumption) (by assumption) rfl ?_)
  | (refine I.fa ?_; first | refine WX.fieldAddr rfl rfl ?_ | refine WX.fieldE rfl (by assumption) (by assumption) rfl ?_)
  | (refine I.ld ?_; first | refine WX.load rfl rfl rfl ?_ | refine WX.loadE rfl (by assumption) (by assumption) rfl rfl rfl ?_ | refine WX.loadA rfl rfl rfl rfl ?_)
  | (refine I.bin ?_; first | refine WX.lss rfl rfl rfl ?_ | refine WX.eql rfl rfl rfl ?_ | refine WX.neq rfl rfl rfl ?_ | refine WX.leq rfl rfl rfl ?_ | refine WX.gtr rfl rfl rfl ?_ | refine WX.geq rfl rfl rfl ?_ | refine WX.add rfl rfl rfl (by omega) ?_ | refine WX.sub' rfl rfl rfl (by omega) ?_ | refine WX.eqPN rfl rfl rfl ?_ | refine WX.nePN rfl rfl rfl ?_ | refine WX.eqNN rfl rfl rfl ?_ | refine WX.neNN rfl rfl rfl ?_)
  | (refine I.un ?_; first | refine WX.notD rfl rfl ?_ | refine WX.not rfl rfl ?_)
  | (refine I.pk ?_; first | refine WX.pickT rfl rfl rfl ?_ | refine WX.pickF rfl rfl rfl ?_)
  | (refine I.bi ?_; first | refine WX.lenSl rfl (by assumption) rfl ?_ | refine WX.len rfl rfl ?_ | refine WX.lenS rfl rfl ?_ | refine WX.min rfl rfl rfl ?_ | refine WX.max rfl rfl rfl ?_)
  | (refine I.ix ?_; first | refine WX.idx rfl rfl (by assumption) (by assumption) rfl ?_ | refine WX.idxI rfl rfl (by assumption) (by omega) (by assumption) rfl ?_)
  | (refine I.sl ?_; refine WX.slTo rfl rfl (by assumption) (by omega) rfl ?_)
  | (refine I.st ?_; first | (refine WX.store rfl rfl rfl rfl ?_; try simp only [List.set_cons_zero, List.set_cons_succ, Nat.reduceAdd]) | (refine WX.storeG rfl rfl rfl rfl rfl rfl ?_; try simp only [setAt, List.set_cons_zero, List.set_cons_succ, Nat.reduceAdd]))
  | (refine I.bd ?_; refine WX.build rfl rfl rfl ?_; try simp only [setAt, Value.cells, List.set_cons_zero, List.set_cons_succ]) | (refine I.bx ?_; refine WX.box rfl rfl rfl (fun _ => ?_)) | (refine I.al ?_; refine WX.alloc rfl (fun _ => ?_)) | (refine I.ex ?_; refine WX.extract rfl rfl rfl ?_))
        refine D.round (k + 1, (b, .cells (List.toArray [v]) 37 (0, 0)) :: hv) ⟨by simp only []; omega, ?_⟩ (by simp only []; omega) (by repeat (first | exact Fsub.nil | refine Fsub.cons rfl ?_)) (Hsub.of_picks inferInstance)
        simp only []
        rw [heardL_snoc hki, heard1, if_neg hc]
        exact ⟨_, _, rfl, hs'⟩
      · refine D.round (k + 1, (b, .cells (List.toArray [v]) 37 (0, 0)) :: hv) ⟨by simp only []; omega, ?_⟩ (by simp only []; omega) (by repeat (first | exact Fsub.nil | refine Fsub.cons rfl ?_)) (Hsub.of_picks inferInstance)
        simp only []
        rw [heardL_snoc hki, heard1, if_neg hc]
        exact ⟨_, _, rfl, hs'⟩
  · repeat' (first
  | refine W.seq ?_ | refine W.region ?_ | refine WX.nil ?_ | refine D.seq ?_ | refine W.block ?_ | refine D.blk ?_ | refine W.skip ?_ | refine W.exit ?_ | refine W.ret ?_
  | refine WM.nil ?_ | refine WM.un ?_ | refine WM.an ?_ | refine WM.backU ?_ | refine WM.back ?_
  | refine D.blkX ?_ | refine D.blkY rfl ?_ | refine D.roundX ?_ | refine D.roundR ?_ | refine D.blkR ?_
  | (refine I.gd ?_; first | refine WX.gy rfl rfl ?_ | refine WX.gn rfl rfl rfl rfl ?_ | refine WX.gnN rfl rfl rfl ?_ | refine WX.gT rfl rfl (by first | assumption | omega) ?_ | refine WX.gF rfl rfl (by first | assumption | omega) ?_ | refine WX.gS rfl rfl (fun _ => ?_) (fun _ => ?_))
  | (refine I.cond ?_; first | refine W.condT rfl ?_ | refine W.condF rfl ?_ | refine W.condP rfl (by first | assumption | omega) ?_ | refine W.condN rfl (by first | assumption | omega) ?_)
  | (refine I.mv ?_; refine WX.move rfl rfl ?_) | (refine I.as ?_; refine WX.assign rfl rfl ?_)
  | (refine I.nc ?_; first | refine WX.nilCheck rfl rfl ?_ | refine WX.nilE rfl (by assumption) (by assumption) rfl ?_)
  | (refine I.fa ?_; first | refine WX.fieldAddr rfl rfl ?_ | refine WX.fieldE rfl (by assumption) (by assumption) rfl ?_)
  | (refine I.ld ?_; first | refine WX.load rfl rfl rfl ?_ | refine WX.loadE rfl (by assumption) (by assumption) rfl rfl rfl ?_ | refine WX.loadA rfl rfl rfl rfl ?_)
  | (refine I.bin ?_; first | refine WX.lss rfl rfl rfl ?_ | refine WX.eql rfl rfl rfl ?_ | refine WX.neq rfl rfl rfl ?_ | refine WX.leq rfl rfl rfl ?_ | refine WX.gtr rfl rfl rfl ?_ | refine WX.geq rfl rfl rfl ?_ | refine WX.add rfl rfl rfl (by omega) ?_ | refine WX.sub' rfl rfl rfl (by omega) ?_ | refine WX.eqPN rfl rfl rfl ?_ | refine WX.nePN rfl rfl rfl ?_ | refine WX.eqNN rfl rfl rfl ?_ | refine WX.neNN rfl rfl rfl ?_)
  | (refine I.un ?_; first | refine WX.notD rfl rfl ?_ | refine WX.not rfl rfl ?_)
  | (refine I.pk ?_; first | refine WX.pickT rfl rfl rfl ?_ | refine WX.pickF rfl rfl rfl ?_)
  | (refine I.bi ?_; first | refine WX.lenSl rfl (by assumption) rfl ?_ | refine WX.len rfl rfl ?_ | refine WX.lenS rfl rfl ?_ | refine WX.min rfl rfl rfl ?_ | refine WX.max rfl rfl rfl ?_)
  | (refine I.ix ?_; first | refine WX.idx rfl rfl (by assumption) (by assumption) rfl ?_ | refine WX.idxI rfl rfl (by assumption) (by omega) (by assumption) rfl ?_)
  | (refine I.sl ?_; refine WX.slTo rfl rfl (by assumption) (by omega) rfl ?_)
  | (refine I.st ?_; first | (refine WX.store rfl rfl rfl rfl ?_; try simp only [List.set_cons_zero, List.set_cons_succ, Nat.reduceAdd]) | (refine WX.storeG rfl rfl rfl rfl rfl rfl ?_; try simp only [setAt, List.set_cons_zero, List.set_cons_succ, Nat.reduceAdd]))
  | (refine I.bd ?_; refine WX.build rfl rfl rfl ?_; try simp only [setAt, Value.cells, List.set_cons_zero, List.set_cons_succ]) | (refine I.bx ?_; refine WX.box rfl rfl rfl (fun _ => ?_)) | (refine I.al ?_; refine WX.alloc rfl (fun _ => ?_)) | (refine I.ex ?_; refine WX.extract rfl rfl rfl ?_))
    obtain rfl : k = is.length := by omega
    exact D.finE [(b, .cells (List.toArray [v]) 37 (0, 0)) :: hv, _] _ rfl ⟨rfl, _, rfl, _, _, rfl, by simpa using hs'⟩

theorem rtick_ct {b : Nat} {xs : List Int} {h : Hp} (hw : WAt 37 b xs h) (ok : Wok xs) :
    Ct Try.prog 17 [.pointer (some ⟨b, 0, none⟩)] [h] (fun v H' => v = .tuple #[] ∧ ∃ h', H' = [h'] ∧ WAt 37 b (tickL xs) h') := by
  obtain ⟨v, hv, rfl, hs⟩ := hw
  have hl := ok.1
  refine Ct.mk' Try.func17 rfl rfl rfl (fun g R => ?_)
  try simp only [List.cons_append]
  simp only [List.nil_append]
  repeat' (first
  | refine W.seq ?_ | refine W.region ?_ | refine WX.nil ?_ | refine D.seq ?_ | refine W.block ?_ | refine D.blk ?_ | refine W.skip ?_ | refine W.exit ?_ | refine W.ret ?_
  | refine WM.nil ?_ | refine WM.un ?_ | refine WM.an ?_ | refine WM.backU ?_ | refine WM.back ?_
  | refine D.blkX ?_ | refine D.blkY rfl ?_ | refine D.roundX ?_ | refine D.roundR ?_ | refine D.blkR ?_
  | (refine I.gd ?_; first | refine WX.gy rfl rfl ?_ | refine WX.gn rfl rfl rfl rfl ?_ | refine WX.gnN rfl rfl rfl ?_ | refine WX.gT rfl rfl (by first | assumption | omega) ?_ | refine WX.gF rfl rfl (by first | assumption | omega) ?_ | refine WX.gS rfl rfl (fun _ => ?_) (fun _ => ?_))
  | (refine I.cond ?_; first | refine W.condT rfl ?_ | refine W.condF rfl ?_ | refine W.condP rfl (by first | assumption | omega) ?_ | refine W.condN rfl (by first | assumption | omega) ?_)
  | (refine I.mv ?_; refine WX.move rfl rfl ?_) | (refine I.as ?_; refine WX.assign rfl rfl ?_)
  | (refine I.nc ?_; first | refine WX.nilCheck rfl rfl ?_ | refine WX.nilE rfl (by assumption) (by assumption) rfl ?_)
  | (refine I.fa ?_; first | refine WX.fieldAddr rfl rfl ?_ | refine WX.fieldE rfl (by assumption) (by assumption) rfl ?_)
  | (refine I.ld ?_; first | refine WX.load rfl rfl rfl ?_ | refine WX.loadE rfl (by assumption) (by assumption) rfl rfl rfl ?_ | refine WX.loadA rfl rfl rfl rfl ?_)
  | (refine I.bin ?_; first | refine WX.lss rfl rfl rfl ?_ | refine WX.eql rfl rfl rfl ?_ | refine WX.neq rfl rfl rfl ?_ | refine WX.leq rfl rfl rfl ?_ | refine WX.gtr rfl rfl rfl ?_ | refine WX.geq rfl rfl rfl ?_ | refine WX.add rfl rfl rfl (by omega) ?_ | refine WX.sub' rfl rfl rfl (by omega) ?_ | refine WX.eqPN rfl rfl rfl ?_ | refine WX.nePN rfl rfl rfl ?_ | refine WX.eqNN rfl rfl rfl ?_ | refine WX.neNN rfl rfl rfl ?_)
  | (refine I.un ?_; first | refine WX.notD rfl rfl ?_ | refine WX.not rfl rfl ?_)
  | (refine I.pk ?_; first | refine WX.pickT rfl rfl rfl ?_ | refine WX.pickF rfl rfl rfl ?_)
  | (refine I.bi ?_; first | refine WX.lenSl rfl (by assumption) rfl ?_ | refine WX.len rfl rfl ?_ | refine WX.lenS rfl rfl ?_ | refine WX.min rfl rfl rfl ?_ | refine WX.max rfl rfl rfl ?_)
  | (refine I.ix ?_; first | refine WX.idx rfl rfl (by assumption) (by assumption) rfl ?_ | refine WX.idxI rfl rfl (by assumption) (by omega) (by assumption) rfl ?_)
  | (refine I.sl ?_; refine WX.slTo rfl rfl (by assumption) (by omega) rfl ?_)
  | (refine I.st ?_; first | (refine WX.store rfl rfl rfl rfl ?_; try simp only [List.set_cons_zero, List.set_cons_succ, Nat.reduceAdd]) | (refine WX.storeG rfl rfl rfl rfl rfl rfl ?_; try simp only [setAt, List.set_cons_zero, List.set_cons_succ, Nat.reduceAdd]))
  | (refine I.bd ?_; refine WX.build rfl rfl rfl ?_; try simp only [setAt, Value.cells, List.set_cons_zero, List.set_cons_succ]) | (refine I.bx ?_; refine WX.box rfl rfl rfl (fun _ => ?_)) | (refine I.al ?_; refine WX.alloc rfl (fun _ => ?_)) | (refine I.ex ?_; refine WX.extract rfl rfl rfl ?_))
  refine W.loop (α := Nat × Hp) (fun x => x.1 ≤ xs.length ∧ IsSl 3 (mapTo tick1 xs x.1) v x.2)
    (fun x => [(0, .pointer (some ⟨b, 0, none⟩)), (2, .int .i64 (x.1 : Int))]) (fun x => [[(b, .cells (List.toArray [v]) 37 (0, 0))], x.2, R]) (fun x => xs.length - x.1) (0, hv) ⟨by omega, by simpa [mapTo] using hs⟩ (by repeat (first | exact Fsub.nil | refine Fsub.cons rfl ?_)) (Hsub.of_picks inferInstance) ?_
  rintro ⟨k, h'⟩ ⟨hk, hw'⟩
  simp only [] at hk hw' ⊢
  have hr' := hw'.rs
  have hml := mapTo_len tick1 xs k
  by_cases hlt : k < xs.length
  · obtain ⟨x, hx⟩ : ∃ x, xs[k]? = some x := ⟨_, List.getElem?_eq_getElem hlt⟩
    have hx' := mapTo_get (f := tick1) hx
    have hb := ok.2 x (List.mem_of_getElem? hx)
    repeat' (first
  | refine W.seq ?_ | refine W.region ?_ | refine WX.nil ?_ | refine D.seq ?_ | refine W.block ?_ | refine D.blk ?_ | refine W.skip ?_ | refine W.exit ?_ | refine W.ret ?_
  | refine WM.nil ?_ | refine WM.un ?_ | refine WM.an ?_ | refine WM.backU ?_ | refine WM.back ?_
  | refine D.blkX ?_ | refine D.blkY rfl ?_ | refine D.roundX ?_ | refine D.roundR ?_ | refine D.blkR ?_
  | (refine I.gd ?_; first | refine WX.gy rfl rfl ?_ | refine WX.gn rfl rfl rfl rfl ?_ | refine WX.gnN rfl rfl rfl ?_ | refine WX.gT rfl rfl (by first | assumption | omega) ?_ | refine WX.gF rfl rfl (by first | assumption | omega) ?_ | refine WX.gS rfl rfl (fun _ => ?_) (fun _ => ?_))
  | (refine I.cond ?_; first | refine W.condT rfl ?_ | refine W.condF rfl ?_ | refine W.condP rfl (by first | assumption | omega) ?_ | refine W.condN rfl (by first | assumption | omega) ?_)
  | (refine I.mv ?_; refine WX.move rfl rfl ?_) | (refine I.as ?_; refine WX.assign rfl rfl ?_)
  | (refine I.nc ?_; first | refine WX.nilCheck rfl rfl ?_ | refine WX.nilE rfl (by assumption) (by assumption) rfl ?_)
  | (refine I.fa ?_; first | refine WX.fieldAddr rfl rfl ?_ | refine WX.fieldE rfl (by assumption) (by assumption) rfl ?_)
  | (refine I.ld ?_; first | refine WX.load rfl rfl rfl ?_ | refine WX.loadE rfl (by assumption) (by assumption) rfl rfl rfl ?_ | refine WX.loadA rfl rfl rfl rfl ?_)
  | (refine I.bin ?_; first | refine WX.lss rfl rfl rfl ?_ | refine WX.eql rfl rfl rfl ?_ | refine WX.neq rfl rfl rfl ?_ | refine WX.leq rfl rfl rfl ?_ | refine WX.gtr rfl rfl rfl ?_ | refine WX.geq rfl rfl rfl ?_ | refine WX.add rfl rfl rfl (by omega) ?_ | refine WX.sub' rfl rfl rfl (by omega) ?_ | refine WX.eqPN rfl rfl rfl ?_ | refine WX.nePN rfl rfl rfl ?_ | refine WX.eqNN rfl rfl rfl ?_ | refine WX.neNN rfl rfl rfl ?_)
  | (refine I.un ?_; first | refine WX.notD rfl rfl ?_ | refine WX.not rfl rfl ?_)
  | (refine I.pk ?_; first | refine WX.pickT rfl rfl rfl ?_ | refine WX.pickF rfl rfl rfl ?_)
  | (refine I.bi ?_; first | refine WX.lenSl rfl (by assumption) rfl ?_ | refine WX.len rfl rfl ?_ | refine WX.lenS rfl rfl ?_ | refine WX.min rfl rfl rfl ?_ | refine WX.max rfl rfl rfl ?_)
  | (refine I.ix ?_; first | refine WX.idx rfl rfl (by assumption) (by assumption) rfl ?_ | refine WX.idxI rfl rfl (by assumption) (by omega) (by assumption) rfl ?_)
  | (refine I.sl ?_; refine WX.slTo rfl rfl (by assumption) (by omega) rfl ?_)
  | (refine I.st ?_; first | (refine WX.store rfl rfl rfl rfl ?_; try simp only [List.set_cons_zero, List.set_cons_succ, Nat.reduceAdd]) | (refine WX.storeG rfl rfl rfl rfl rfl rfl ?_; try simp only [setAt, List.set_cons_zero, List.set_cons_succ, Nat.reduceAdd]))
  | (refine I.bd ?_; refine WX.build rfl rfl rfl ?_; try simp only [setAt, Value.cells, List.set_cons_zero, List.set_cons_succ]) | (refine I.bx ?_; refine WX.box rfl rfl rfl (fun _ => ?_)) | (refine I.al ?_; refine WX.alloc rfl (fun _ => ?_)) | (refine I.ex ?_; refine WX.extract rfl rfl rfl ?_))
    refine W.mix (List.replicate 15 true) [[(b, .cells (List.toArray [v]) 37 (0, 0))], h'] Try.mix (by kernel_rfl) ?_
    repeat' (first
  | refine W.seq ?_ | refine W.region ?_ | refine WX.nil ?_ | refine D.seq ?_ | refine W.block ?_ | refine D.blk ?_ | refine W.skip ?_ | refine W.exit ?_ | refine W.ret ?_
  | refine WM.nil ?_ | refine WM.un ?_ | refine WM.an ?_ | refine WM.backU ?_ | refine WM.back ?_
  | refine D.blkX ?_ | refine D.blkY rfl ?_ | refine D.roundX ?_ | refine D.roundR ?_ | refine D.blkR ?_
  | (refine I.gd ?_; first | refine WX.gy rfl rfl ?_ | refine WX.gn rfl rfl rfl rfl ?_ | refine WX.gnN rfl rfl rfl ?_ | refine WX.gT rfl rfl (by first | assumption | omega) ?_ | refine WX.gF rfl rfl (by first | assumption | omega) ?_ | refine WX.gS rfl rfl (fun _ => ?_) (fun _ => ?_))
  | (refine I.cond ?_; first | refine W.condT rfl ?_ | refine W.condF rfl ?_ | refine W.condP rfl (by first | assumption | omega) ?_ | refine W.condN rfl (by first | assumption | omega) ?_)
  | (refine I.mv ?_; refine WX.move rfl rfl ?_) | (refine I.as ?_; refine WX.assign rfl rfl ?_)
  | (refine I.nc ?_; first | refine WX.nilCheck rfl rfl ?_ | refine WX.nilE rfl (by assumption) (by assumption) rfl ?_)
  | (refine I.fa ?_; first | refine WX.fieldAddr rfl rfl ?_ | refine WX.fieldE rfl (by assumption) (by assumption) rfl ?_)
  | (refine I.ld ?_; first | refine WX.load rfl rfl rfl ?_ | refine WX.loadE rfl (by assumption) (by assumption) rfl rfl rfl ?_ | refine WX.loadA rfl rfl rfl rfl ?_)
  | (refine I.bin ?_; first | refine WX.lss rfl rfl rfl ?_ | refine WX.eql rfl rfl rfl ?_ | refine WX.neq rfl rfl rfl ?_ | refine WX.leq rfl rfl rfl ?_ | refine WX.gtr rfl rfl rfl ?_ | refine WX.geq rfl rfl rfl ?_ | refine WX.add rfl rfl rfl (by omega) ?_ | refine WX.sub' rfl rfl rfl (by omega) ?_ | refine WX.eqPN rfl rfl rfl ?_ | refine WX.nePN rfl rfl rfl ?_ | refine WX.eqNN rfl rfl rfl ?_ | refine WX.neNN rfl rfl rfl ?_)
  | (refine I.un ?_; first | refine WX.notD rfl rfl ?_ | refine WX.not rfl rfl ?_)
  | (refine I.pk ?_; first | refine WX.pickT rfl rfl rfl ?_ | refine WX.pickF rfl rfl rfl ?_)
  | (refine I.bi ?_; first | refine WX.lenSl rfl (by assumption) rfl ?_ | refine WX.len rfl rfl ?_ | refine WX.lenS rfl rfl ?_ | refine WX.min rfl rfl rfl ?_ | refine WX.max rfl rfl rfl ?_)
  | (refine I.ix ?_; first | refine WX.idx rfl rfl (by assumption) (by assumption) rfl ?_ | refine WX.idxI rfl rfl (by assumption) (by omega) (by assumption) rfl ?_)
  | (refine I.sl ?_; refine WX.slTo rfl rfl (by assumption) (by omega) rfl ?_)
  | (refine I.st ?_; first | (refine WX.store rfl rfl rfl rfl ?_; try simp only [List.set_cons_zero, List.set_cons_succ, Nat.reduceAdd]) | (refine WX.storeG rfl rfl rfl rfl rfl rfl ?_; try simp only [setAt, List.set_cons_zero, List.set_cons_succ, Nat.reduceAdd]))
  | (refine I.bd ?_; refine WX.build rfl rfl rfl ?_; try simp only [setAt, Value.cells, List.set_cons_zero, List.set_cons_succ]) | (refine I.bx ?_; refine WX.box rfl rfl rfl (fun _ => ?_)) | (refine I.al ?_; refine WX.alloc rfl (fun _ => ?_)) | (refine I.ex ?_; refine WX.extract rfl rfl rfl ?_))
    refine WX.storeE (y' := tick1 x) rfl rfl rfl hw' hx' rfl rfl rfl rfl rfl (fun h2 hs2 => ?_)
    rw [mapTo_set hx] at hs2
    repeat' (first
  | refine W.seq ?_ | refine W.region ?_ | refine WX.nil ?_ | refine D.seq ?_ | refine W.block ?_ | refine D.blk ?_ | refine W.skip ?_ | refine W.exit ?_ | refine W.ret ?_
  | refine WM.nil ?_ | refine WM.un ?_ | refine WM.an ?_ | refine WM.backU ?_ | refine WM.back ?_
  | refine D.blkX ?_ | refine D.blkY rfl ?_ | refine D.roundX ?_ | refine D.roundR ?_ | refine D.blkR ?_
  | (refine I.gd ?_; first | refine WX.gy rfl rfl ?_ | refine WX.gn rfl rfl rfl rfl ?_ | refine WX.gnN rfl rfl rfl ?_ | refine WX.gT rfl rfl (by first | assumption | omega) ?_ | refine WX.gF rfl rfl (by first | assumption | omega) ?_ | refine WX.gS rfl rfl (fun _ => ?_) (fun _ => ?_))
  | (refine I.cond ?_; first | refine W.condT rfl ?_ | refine W.condF rfl ?_ | refine W.condP rfl (by first | assumption | omega) ?_ | refine W.condN rfl (by first | assumption | omega) ?_)
  | (refine I.mv ?_; refine WX.move rfl rfl ?_) | (refine I.as ?_; refine WX.assign rfl rfl ?_)
  | (refine I.nc ?_; first | refine WX.nilCheck rfl rfl ?_ | refine WX.nilE rfl (by assumption) (by assumption) rfl ?_)
  | (refine I.fa ?_; first | refine WX.fieldAddr rfl rfl ?_ | refine WX.fieldE rfl (by assumption) (by assumption) rfl ?_)
  | (refine I.ld ?_; first | refine WX.load rfl rfl rfl ?_ | refine WX.loadE rfl (by assumption) (by assumption) rfl rfl rfl ?_ | refine WX.loadA rfl rfl rfl rfl ?_)
  | (refine I.bin ?_; first | refine WX.lss rfl rfl rfl ?_ | refine WX.eql rfl rfl rfl ?_ | refine WX.neq rfl rfl rfl ?_ | refine WX.leq rfl rfl rfl ?_ | refine WX.gtr rfl rfl rfl ?_ | refine WX.geq rfl rfl rfl ?_ | refine WX.add rfl rfl rfl (by omega) ?_ | refine WX.sub' rfl rfl rfl (by omega) ?_ | refine WX.eqPN rfl rfl rfl ?_ | refine WX.nePN rfl rfl rfl ?_ | refine WX.eqNN rfl rfl rfl ?_ | refine WX.neNN rfl rfl rfl ?_)
  | (refine I.un ?_; first | refine WX.notD rfl rfl ?_ | refine WX.not rfl rfl ?_)
  | (refine I.pk ?_; first | refine WX.pickT rfl rfl rfl ?_ | refine WX.pickF rfl rfl rfl ?_)
  | (refine I.bi ?_; first | refine WX.lenSl rfl (by assumption) rfl ?_ | refine WX.len rfl rfl ?_ | refine WX.lenS rfl rfl ?_ | refine WX.min rfl rfl rfl ?_ | refine WX.max rfl rfl rfl ?_)
  | (refine I.ix ?_; first | refine WX.idx rfl rfl (by assumption) (by assumption) rfl ?_ | refine WX.idxI rfl rfl (by assumption) (by omega) (by assumption) rfl ?_)
  | (refine I.sl ?_; refine WX.slTo rfl rfl (by assumption) (by omega) rfl ?_)
  | (refine I.st ?_; first | (refine WX.store rfl rfl rfl rfl ?_; try simp only [List.set_cons_zero, List.set_cons_succ, Nat.reduceAdd]) | (refine WX.storeG rfl rfl rfl rfl rfl rfl ?_; try simp only [setAt, List.set_cons_zero, List.set_cons_succ, Nat.reduceAdd]))
  | (refine I.bd ?_; refine WX.build rfl rfl rfl ?_; try simp only [setAt, Value.cells, List.set_cons_zero, List.set_cons_succ]) | (refine I.bx ?_; refine WX.box rfl rfl rfl (fun _ => ?_)) | (refine I.al ?_; refine WX.alloc rfl (fun _ => ?_)) | (refine I.ex ?_; refine WX.extract rfl rfl rfl ?_))
    exact D.round (k + 1, h2) ⟨by simp only []; omega, hs2⟩ (by simp only []; omega) (by repeat (first | exact Fsub.nil | refine Fsub.cons rfl ?_)) (Hsub.of_picks inferInstance)
  · repeat' (first
  | refine W.seq ?_ | refine W.region ?_ | refine WX.nil ?_ | refine D.seq ?_ | refine W.block ?_ | refine D.blk ?_ | refine W.skip ?_ | refine W.exit ?_ | refine W.ret ?_
  | refine WM.nil ?_ | refine WM.un ?_ | refine WM.an ?_ | refine WM.backU ?_ | refine WM.back ?_
  | refine D.blkX ?_ | refine D.blkY rfl ?_ | refine D.roundX ?_ | refine D.roundR ?_ | refine D.blkR ?_
  | (refine I.gd ?_; first | refine WX.gy rfl rfl ?_ | refine WX.gn rfl rfl rfl rfl ?_ | refine WX.gnN rfl rfl rfl ?_ | refine WX.gT rfl rfl (by first | assumption | omega) ?_ | refine WX.gF rfl rfl (by first | assumption | omega) ?_ | refine WX.gS rfl rfl (fun _ => ?_) (fun _ => ?_))
  | (refine I.cond ?_; first | refine W.condT rfl ?_ | refine W.condF rfl ?_ | refine W.condP rfl (by first | assumption | omega) ?_ | refine W.condN rfl (by first | assumption | omega) ?_)
  | (refine I.mv ?_; refine WX.move rfl rfl ?_) | (refine I.as ?_; refine WX.assign rfl rfl ?_)
  | (refine I.nc ?_; first | refine WX.nilCheck rfl rfl ?_ | refine WX.nilE rfl (by assumption) (by assumption) rfl ?_)
  | (refine I.fa ?_; first | refine WX.fieldAddr rfl rfl ?_ | refine WX.fieldE rfl (by assumption) (by assumption) rfl ?_)
  | (refine I.ld ?_; first | refine WX.load rfl rfl rfl ?_ | refine WX.loadE rfl (by assumption) (by assumption) rfl rfl rfl ?_ | refine WX.loadA rfl rfl rfl rfl ?_)
  | (refine I.bin ?_; first | refine WX.lss rfl rfl rfl ?_ | refine WX.eql rfl rfl rfl ?_ | refine WX.neq rfl rfl rfl ?_ | refine WX.leq rfl rfl rfl ?_ | refine WX.gtr rfl rfl rfl ?_ | refine WX.geq rfl rfl rfl ?_ | refine WX.add rfl rfl rfl (by omega) ?_ | refine WX.sub' rfl rfl rfl (by omega) ?_ | refine WX.eqPN rfl rfl rfl ?_ | refine WX.nePN rfl rfl rfl ?_ | refine WX.eqNN rfl rfl rfl ?_ | refine WX.neNN rfl rfl rfl ?_)
  | (refine I.un ?_; first | refine WX.notD rfl rfl ?_ | refine WX.not rfl rfl ?_)
  | (refine I.pk ?_; first | refine WX.pickT rfl rfl rfl ?_ | refine WX.pickF rfl rfl rfl ?_)
  | (refine I.bi ?_; first | refine WX.lenSl rfl (by assumption) rfl ?_ | refine WX.len rfl rfl ?_ | refine WX.lenS rfl rfl ?_ | refine WX.min rfl rfl rfl ?_ | refine WX.max rfl rfl rfl ?_)
  | (refine I.ix ?_; first | refine WX.idx rfl rfl (by assumption) (by assumption) rfl ?_ | refine WX.idxI rfl rfl (by assumption) (by omega) (by assumption) rfl ?_)
  | (refine I.sl ?_; refine WX.slTo rfl rfl (by assumption) (by omega) rfl ?_)
  | (refine I.st ?_; first | (refine WX.store rfl rfl rfl rfl ?_; try simp only [List.set_cons_zero, List.set_cons_succ, Nat.reduceAdd]) | (refine WX.storeG rfl rfl rfl rfl rfl rfl ?_; try simp only [setAt, List.set_cons_zero, List.set_cons_succ, Nat.reduceAdd]))
  | (refine I.bd ?_; refine WX.build rfl rfl rfl ?_; try simp only [setAt, Value.cells, List.set_cons_zero, List.set_cons_succ]) | (refine I.bx ?_; refine WX.box rfl rfl rfl (fun _ => ?_)) | (refine I.al ?_; refine WX.alloc rfl (fun _ => ?_)) | (refine I.ex ?_; refine WX.extract rfl rfl rfl ?_))
    obtain rfl : k = xs.length := by omega
    rw [mapTo_all] at hw'
    exact D.finE [(b, .cells (List.toArray [v]) 37 (0, 0)) :: h'] _ rfl ⟨rfl, _, rfl, v, h', rfl, hw'⟩

theorem rsilence_ct {b : Nat} {xs : List Int} {h : Hp} (hw : WAt 37 b xs h) (i : Int) :
    Ct Try.prog 24 [.pointer (some ⟨b, 0, none⟩), .int .i64 i] [h] (fun v H' => v = .int .i64 (if 0 ≤ i ∧ i < xs.length then xs.getD i.toNat 0 else 0) ∧ H' = [h]) := by
  obtain ⟨v, hv, rfl, hs⟩ := hw
  have hr := hs.rs
  refine Ct.mk' Try.func24 rfl rfl rfl (fun g R => ?_)
  try simp only [List.cons_append]
  simp only [List.nil_append]
  by_cases h0 : i < 0
  · repeat' (first
  | refine W.seq ?_ | refine W.region ?_ | refine WX.nil ?_ | refine D.seq ?_ | refine W.block ?_ | refine D.blk ?_ | refine W.skip ?_ | refine W.exit ?_ | refine W.ret ?_
  | refine WM.nil ?_ | refine WM.un ?_ | refine WM.an ?_ | refine WM.backU ?_ | refine WM.back ?_
  | refine D.blkX ?_ | refine D.blkY rfl ?_ | refine D.roundX ?_ | refine D.roundR ?_ | refine D.blkR ?_
  | (refine I.gd ?_; first | refine WX.gy rfl rfl ?_ | refine WX.gn rfl rfl rfl rfl ?_ | refine WX.gnN rfl rfl rfl ?_ | refine WX.gT rfl rfl (by first | assumption | omega) ?_ | refine WX.gF rfl rfl (by first | assumption | omega) ?_ | refine WX.gS rfl rfl (fun _ => ?_) (fun _ => ?_))
  | (refine I.cond ?_; first | refine W.condT rfl ?_ | refine W.condF rfl ?_ | refine W.condP rfl (by first | assumption | omega) ?_ | refine W.condN rfl (by first | assumption | omega) ?_)
  | (refine I.mv ?_; refine WX.move rfl rfl ?_) | (refine I.as ?_; refine WX.assign rfl rfl ?_)
  | (refine I.nc ?_; first | refine WX.nilCheck rfl rfl ?_ | refine WX.nilE rfl (by assumption) (by assumption) rfl ?_)
  | (refine I.fa ?_; first | refine WX.fieldAddr rfl rfl ?_ | refine WX.fieldE rfl (by assumption) (by assumption) rfl ?_)
  | (refine I.ld ?_; first | refine WX.load rfl rfl rfl ?_ | refine WX.loadE rfl (by assumption) (by assumption) rfl rfl rfl ?_ | refine WX.loadA rfl rfl rfl rfl ?_)
  | (refine I.bin ?_; first | refine WX.lss rfl rfl rfl ?_ | refine WX.eql rfl rfl rfl ?_ | refine WX.neq rfl rfl rfl ?_ | refine WX.leq rfl rfl rfl ?_ | refine WX.gtr rfl rfl rfl ?_ | refine WX.geq rfl rfl rfl ?_ | refine WX.add rfl rfl rfl (by omega) ?_ | refine WX.sub' rfl rfl rfl (by omega) ?_ | refine WX.eqPN rfl rfl rfl ?_ | refine WX.nePN rfl rfl rfl ?_ | refine WX.eqNN rfl rfl rfl ?_ | refine WX.neNN rfl rfl rfl ?_)
  | (refine I.un ?_; first | refine WX.notD rfl rfl ?_ | refine WX.not rfl rfl ?_)
  | (refine I.pk ?_; first | refine WX.pickT rfl rfl rfl ?_ | refine WX.pickF rfl rfl rfl ?_)
  | (refine I.bi ?_; first | refine WX.lenSl rfl (by assumption) rfl ?_ | refine WX.len rfl rfl ?_ | refine WX.lenS rfl rfl ?_ | refine WX.min rfl rfl rfl ?_ | refine WX.max rfl rfl rfl ?_)
  | (refine I.ix ?_; first | refine WX.idx rfl rfl (by assumption) (by assumption) rfl ?_ | refine WX.idxI rfl rfl (by assumption) (by omega) (by assumption) rfl ?_)
  | (refine I.sl ?_; refine WX.slTo rfl rfl (by assumption) (by omega) rfl ?_)
  | (refine I.st ?_; first | (refine WX.store rfl rfl rfl rfl ?_; try simp only [List.set_cons_zero, List.set_cons_succ, Nat.reduceAdd]) | (refine WX.storeG rfl rfl rfl rfl rfl rfl ?_; try simp only [setAt, List.set_cons_zero, List.set_cons_succ, Nat.reduceAdd]))
  | (refine I.bd ?_; refine WX.build rfl rfl rfl ?_; try simp only [setAt, Value.cells, List.set_cons_zero, List.set_cons_succ]) | (refine I.bx ?_; refine WX.box rfl rfl rfl (fun _ => ?_)) | (refine I.al ?_; refine WX.alloc rfl (fun _ => ?_)) | (refine I.ex ?_; refine WX.extract rfl rfl rfl ?_))
    exact D.fin1 [_] _ rfl rfl ⟨by rw [if_neg (by omega)], rfl⟩
  · by_cases h1 : i < xs.length
    · have hx : xs[i.toNat]? = some (xs.getD i.toNat 0) := by rw [List.getD_eq_getElem?_getD, List.getElem?_eq_getElem (by omega)]; rfl
      repeat' (first
  | refine W.seq ?_ | refine W.region ?_ | refine WX.nil ?_ | refine D.seq ?_ | refine W.block ?_ | refine D.blk ?_ | refine W.skip ?_ | refine W.exit ?_ | refine W.ret ?_
  | refine WM.nil ?_ | refine WM.un ?_ | refine WM.an ?_ | refine WM.backU ?_ | refine WM.back ?_
  | refine D.blkX ?_ | refine D.blkY rfl ?_ | refine D.roundX ?_ | refine D.roundR ?_ | refine D.blkR ?_
  | (refine I.gd ?_; first | refine WX.gy rfl rfl ?_ | refine WX.gn rfl rfl rfl rfl ?_ | refine WX.gnN rfl rfl rfl ?_ | refine WX.gT rfl rfl (by first | assumption | omega) ?_ | refine WX.gF rfl rfl (by first | assumption | omega) ?_ | refine WX.gS rfl rfl (fun _ => ?_) (fun _ => ?_))
  | (refine I.cond ?_; first | refine W.condT rfl ?_ | refine W.condF rfl ?_ | refine W.condP rfl (by first | assumption | omega) ?_ | refine W.condN rfl (by first | assumption | omega) ?_)
  | (refine I.mv ?_; refine WX.move rfl rfl ?_) | (refine I.as ?_; refine WX.assign rfl rfl ?_)
  | (refine I.nc ?_; first | refine WX.nilCheck rfl rfl ?_ | refine WX.nilE rfl (by assumption) (by assumption) rfl ?_)
  | (refine I.fa ?_; first | refine WX.fieldAddr rfl rfl ?_ | refine WX.fieldE rfl (by assumption) (by assumption) rfl ?_)
  | (refine I.ld ?_; first | refine WX.load rfl rfl rfl ?_ | refine WX.loadE rfl (by assumption) (by assumption) rfl rfl rfl ?_ | refine WX.loadA rfl rfl rfl rfl ?_)
  | (refine I.bin ?_; first | refine WX.lss rfl rfl rfl ?_ | refine WX.eql rfl rfl rfl ?_ | refine WX.neq rfl rfl rfl ?_ | refine WX.leq rfl rfl rfl ?_ | refine WX.gtr rfl rfl rfl ?_ | refine WX.geq rfl rfl rfl ?_ | refine WX.add rfl rfl rfl (by omega) ?_ | refine WX.sub' rfl rfl rfl (by omega) ?_ | refine WX.eqPN rfl rfl rfl ?_ | refine WX.nePN rfl rfl rfl ?_ | refine WX.eqNN rfl rfl rfl ?_ | refine WX.neNN rfl rfl rfl ?_)
  | (refine I.un ?_; first | refine WX.notD rfl rfl ?_ | refine WX.not rfl rfl ?_)
  | (refine I.pk ?_; first | refine WX.pickT rfl rfl rfl ?_ | refine WX.pickF rfl rfl rfl ?_)
  | (refine I.bi ?_; first | refine WX.lenSl rfl (by assumption) rfl ?_ | refine WX.len rfl rfl ?_ | refine WX.lenS rfl rfl ?_ | refine WX.min rfl rfl rfl ?_ | refine WX.max rfl rfl rfl ?_)
  | (refine I.ix ?_; first | refine WX.idx rfl rfl (by assumption) (by assumption) rfl ?_ | refine WX.idxI rfl rfl (by assumption) (by omega) (by assumption) rfl ?_)
  | (refine I.sl ?_; refine WX.slTo rfl rfl (by assumption) (by omega) rfl ?_)
  | (refine I.st ?_; first | (refine WX.store rfl rfl rfl rfl ?_; try simp only [List.set_cons_zero, List.set_cons_succ, Nat.reduceAdd]) | (refine WX.storeG rfl rfl rfl rfl rfl rfl ?_; try simp only [setAt, List.set_cons_zero, List.set_cons_succ, Nat.reduceAdd]))
  | (refine I.bd ?_; refine WX.build rfl rfl rfl ?_; try simp only [setAt, Value.cells, List.set_cons_zero, List.set_cons_succ]) | (refine I.bx ?_; refine WX.box rfl rfl rfl (fun _ => ?_)) | (refine I.al ?_; refine WX.alloc rfl (fun _ => ?_)) | (refine I.ex ?_; refine WX.extract rfl rfl rfl ?_))
      exact D.fin1 [_] _ rfl rfl ⟨by rw [if_pos (by omega)], rfl⟩
    · repeat' (first
  | refine W.seq ?_ | refine W.region ?_ | refine WX.nil ?_ | refine D.seq ?_ | refine W.block ?_ | refine D.blk ?_ | refine W.skip ?_ | refine W.exit ?_ | refine W.ret ?_
  | refine WM.nil ?_ | refine WM.un ?_ | refine WM.an ?_ | refine WM.backU ?_ | refine WM.back ?_
  | refine D.blkX ?_ | refine D.blkY rfl ?_ | refine D.roundX ?_ | refine D.roundR ?_ | refine D.blkR ?_
  | (refine I.gd ?_; first | refine WX.gy rfl rfl ?_ | refine WX.gn rfl rfl rfl rfl ?_ | refine WX.gnN rfl rfl rfl ?_ | refine WX.gT rfl rfl (by first | assumption | omega) ?_ | refine WX.gF rfl rfl (by first | assumption | omega) ?_ | refine WX.gS rfl rfl (fun _ => ?_) (fun _ => ?_))
  | (refine I.cond ?_; first | refine W.condT rfl ?_ | refine W.condF rfl ?_ | refine W.condP rfl (by first | assumption | omega) ?_ | refine W.condN rfl (by first | assumption | omega) ?_)
  | (refine I.mv ?_; refine WX.move rfl rfl ?_) | (refine I.as ?_; refine WX.assign rfl rfl ?_)
  | (refine I.nc ?_; first | refine WX.nilCheck rfl rfl ?_ | refine WX.nilE rfl (by assumption) (by assumption) rfl ?_)
  | (refine I.fa ?_; first | refine WX.fieldAddr rfl rfl ?_ | refine WX.fieldE rfl (by assumption) (by assumption) rfl ?_)
  | (refine I.ld ?_; first | refine WX.load rfl rfl rfl ?_ | refine WX.loadE rfl (by assumption) (by assumption) rfl rfl rfl ?_ | refine WX.loadA rfl rfl rfl rfl ?_)
  | (refine I.bin ?_; first | refine WX.lss rfl rfl rfl ?_ | refine WX.eql rfl rfl rfl ?_ | refine WX.neq rfl rfl rfl ?_ | refine WX.leq rfl rfl rfl ?_ | refine WX.gtr rfl rfl rfl ?_ | refine WX.geq rfl rfl rfl ?_ | refine WX.add rfl rfl rfl (by omega) ?_ | refine WX.sub' rfl rfl rfl (by omega) ?_ | refine WX.eqPN rfl rfl rfl ?_ | refine WX.nePN rfl rfl rfl ?_ | refine WX.eqNN rfl rfl rfl ?_ | refine WX.neNN rfl rfl rfl ?_)
  | (refine I.un ?_; first | refine WX.notD rfl rfl ?_ | refine WX.not rfl rfl ?_)
  | (refine I.pk ?_; first | refine WX.pickT rfl rfl rfl ?_ | refine WX.pickF rfl rfl rfl ?_)
  | (refine I.bi ?_; first | refine WX.lenSl rfl (by assumption) rfl ?_ | refine WX.len rfl rfl ?_ | refine WX.lenS rfl rfl ?_ | refine WX.min rfl rfl rfl ?_ | refine WX.max rfl rfl rfl ?_)
  | (refine I.ix ?_; first | refine WX.idx rfl rfl (by assumption) (by assumption) rfl ?_ | refine WX.idxI rfl rfl (by assumption) (by omega) (by assumption) rfl ?_)
  | (refine I.sl ?_; refine WX.slTo rfl rfl (by assumption) (by omega) rfl ?_)
  | (refine I.st ?_; first | (refine WX.store rfl rfl rfl rfl ?_; try simp only [List.set_cons_zero, List.set_cons_succ, Nat.reduceAdd]) | (refine WX.storeG rfl rfl rfl rfl rfl rfl ?_; try simp only [setAt, List.set_cons_zero, List.set_cons_succ, Nat.reduceAdd]))
  | (refine I.bd ?_; refine WX.build rfl rfl rfl ?_; try simp only [setAt, Value.cells, List.set_cons_zero, List.set_cons_succ]) | (refine I.bx ?_; refine WX.box rfl rfl rfl (fun _ => ?_)) | (refine I.al ?_; refine WX.alloc rfl (fun _ => ?_)) | (refine I.ex ?_; refine WX.extract rfl rfl rfl ?_))
      exact D.fin1 [_] _ rfl rfl ⟨by rw [if_neg (by omega)], rfl⟩

theorem rsilent_ct {b : Nat} {xs : List Int} {h : Hp} (hw : WAt 37 b xs h) (hl : xs.length ≤ 64) (lim : Int) :
    Ct Try.prog 22 [.pointer (some ⟨b, 0, none⟩), .int .i64 lim] [h] (fun v H' => ∃ h', H' = [h, h'] ∧ IsSl 3 (silL xs lim) v h') := by
  obtain ⟨v, hv, rfl, hs⟩ := hw
  have hr := hs.rs
  refine Ct.mk' Try.func22 rfl rfl rfl (fun g R => ?_)
  try simp only [List.cons_append]
  simp only [List.nil_append]
  repeat' (first
  | refine W.seq ?_ | refine W.region ?_ | refine WX.nil ?_ | refine D.seq ?_ | refine W.block ?_ | refine D.blk ?_ | refine W.skip ?_ | refine W.exit ?_ | refine W.ret ?_
  | refine WM.nil ?_ | refine WM.un ?_ | refine WM.an ?_ | refine WM.backU ?_ | refine WM.back ?_
  | refine D.blkX ?_ | refine D.blkY rfl ?_ | refine D.roundX ?_ | refine D.roundR ?_ | refine D.blkR ?_
  | (refine I.gd ?_; first | refine WX.gy rfl rfl ?_ | refine WX.gn rfl rfl rfl rfl ?_ | refine WX.gnN rfl rfl rfl ?_ | refine WX.gT rfl rfl (by first | assumption | omega) ?_ | refine WX.gF rfl rfl (by first | assumption | omega) ?_ | refine WX.gS rfl rfl (fun _ => ?_) (fun _ => ?_))
  | (refine I.cond ?_; first | refine W.condT rfl ?_ | refine W.condF rfl ?_ | refine W.condP rfl (by first | assumption | omega) ?_ | refine W.condN rfl (by first | assumption | omega) ?_)
  | (refine I.mv ?_; refine WX.move rfl rfl ?_) | (refine I.as ?_; refine WX.assign rfl rfl ?_)
  | (refine I.nc ?_; first | refine WX.nilCheck rfl rfl ?_ | refine WX.nilE rfl (by assumption) (by assumption) rfl ?_)
  | (refine I.fa ?_; first | refine WX.fieldAddr rfl rfl ?_ | refine WX.fieldE rfl (by assumption) (by assumption) rfl ?_)
  | (refine I.ld ?_; first | refine WX.load rfl rfl rfl ?_ | refine WX.loadE rfl (by assumption) (by assumption) rfl rfl rfl ?_ | refine WX.loadA rfl rfl rfl rfl ?_)
  | (refine I.bin ?_; first | refine WX.lss rfl rfl rfl ?_ | refine WX.eql rfl rfl rfl ?_ | refine WX.neq rfl rfl rfl ?_ | refine WX.leq rfl rfl rfl ?_ | refine WX.gtr rfl rfl rfl ?_ | refine WX.geq rfl rfl rfl ?_ | refine WX.add rfl rfl rfl (by omega) ?_ | refine WX.sub' rfl rfl rfl (by omega) ?_ | refine WX.eqPN rfl rfl rfl ?_ | refine WX.nePN rfl rfl rfl ?_ | refine WX.eqNN rfl rfl rfl ?_ | refine WX.neNN rfl rfl rfl ?_)
  | (refine I.un ?_; first | refine WX.notD rfl rfl ?_ | refine WX.not rfl rfl ?_)
  | (refine I.pk ?_; first | refine WX.pickT rfl rfl rfl ?_ | refine WX.pickF rfl rfl rfl ?_)
  | (refine I.bi ?_; first | refine WX.lenSl rfl (by assumption) rfl ?_ | refine WX.len rfl rfl ?_ | refine WX.lenS rfl rfl ?_ | refine WX.min rfl rfl rfl ?_ | refine WX.max rfl rfl rfl ?_)
  | (refine I.ix ?_; first | refine WX.idx rfl rfl (by assumption) (by assumption) rfl ?_ | refine WX.idxI rfl rfl (by assumption) (by omega) (by assumption) rfl ?_)
  | (refine I.sl ?_; refine WX.slTo rfl rfl (by assumption) (by omega) rfl ?_)
  | (refine I.st ?_; first | (refine WX.store rfl rfl rfl rfl ?_; try simp only [List.set_cons_zero, List.set_cons_succ, Nat.reduceAdd]) | (refine WX.storeG rfl rfl rfl rfl rfl rfl ?_; try simp only [setAt, List.set_cons_zero, List.set_cons_succ, Nat.reduceAdd]))
  | (refine I.bd ?_; refine WX.build rfl rfl rfl ?_; try simp only [setAt, Value.cells, List.set_cons_zero, List.set_cons_succ]) | (refine I.bx ?_; refine WX.box rfl rfl rfl (fun _ => ?_)) | (refine I.al ?_; refine WX.alloc rfl (fun _ => ?_)) | (refine I.ex ?_; refine WX.extract rfl rfl rfl ?_))
  refine W.loop (α := Nat × Value × Hp) (fun x => x.1 ≤ xs.length ∧ IsSl 3 (silK xs lim x.1) x.2.1 x.2.2)
    (fun x => [(0, .pointer (some ⟨b, 0, none⟩)), (1, .int .i64 lim), (5, x.2.1), (6, .int .i64 (x.1 : Int))]) (fun x => [x.2.2, [(b, .cells (List.toArray [v]) 37 (0, 0))], hv, R]) (fun x => xs.length - x.1)
    (0, .slice none 0 0, []) ⟨by omega, by simpa [silK] using IsSl.nil (α := Int) 3⟩ (by repeat (first | exact Fsub.nil | refine Fsub.cons rfl ?_)) (Hsub.of_picks inferInstance) ?_
  rintro ⟨k, u, h'⟩ ⟨hk, hu⟩
  simp only [] at hk hu ⊢
  have hkl := silK_len xs lim k
  by_cases hlt : k < xs.length
  · obtain ⟨x, hx⟩ : ∃ x, xs[k]? = some x := ⟨_, List.getElem?_eq_getElem hlt⟩
    by_cases hc : lim ≤ x
    · repeat' (first
  | refine W.seq ?_ | refine W.region ?_ | refine WX.nil ?_ | refine D.seq ?_ | refine W.block ?_ | refine D.blk ?_ | refine W.skip ?_ | refine W.exit ?_ | refine W.ret ?_
  | refine WM.nil ?_ | refine WM.un ?_ | refine WM.an ?_ | refine WM.backU ?_ | refine WM.back ?_
  | refine D.blkX ?_ | refine D.blkY rfl ?_ | refine D.roundX ?_ | refine D.roundR ?_ | refine D.blkR ?_
  | (refine I.gd ?_; first | refine WX.gy rfl rfl ?_ | refine WX.gn rfl rfl rfl rfl ?_ | refine WX.gnN rfl rfl rfl ?_ | refine WX.gT rfl rfl (by first | assumption | omega) ?_ | refine WX.gF rfl rfl (by first | assumption | omega) ?_ | refine WX.gS rfl rfl (fun _ => ?_) (fun _ => ?_))
  | (refine I.cond ?_; first | refine W.condT rfl ?_ | refine W.condF rfl ?_ | refine W.condP rfl (by first | assumption | omega) ?_ | refine W.condN rfl (by first | assumption | omega) ?_)
  | (refine I.mv ?_; refine WX.move rfl rfl ?_) | (refine I.as ?_; refine WX.assign rfl rfl ?_)
  | (refine I.nc ?_; first | refine WX.nilCheck rfl rfl ?_ | refine WX.nilE rfl (by assumption) (by assumption) rfl ?_)
  | (refine I.fa ?_; first | refine WX.fieldAddr rfl rfl ?_ | refine WX.fieldE rfl (by assumption) (by assumption) rfl ?_)
  | (refine I.ld ?_; first | refine WX.load rfl rfl rfl ?_ | refine WX.loadE rfl (by assumption) (by assumption) rfl rfl rfl ?_ | refine WX.loadA rfl rfl rfl rfl ?_)
  | (refine I.bin ?_; first | refine WX.lss rfl rfl rfl ?_ | refine WX.eql rfl rfl rfl ?_ | refine WX.neq rfl rfl rfl ?_ | refine WX.leq rfl rfl rfl ?_ | refine WX.gtr rfl rfl rfl ?_ | refine WX.geq rfl rfl rfl ?_ | refine WX.add rfl rfl rfl (by omega) ?_ | refine WX.sub' rfl rfl rfl (by omega) ?_ | refine WX.eqPN rfl rfl rfl ?_ | refine WX.nePN rfl rfl rfl ?_ | refine WX.eqNN rfl rfl rfl ?_ | refine WX.neNN rfl rfl rfl ?_)
  | (refine I.un ?_; first | refine WX.notD rfl rfl ?_ | refine WX.not rfl rfl ?_)
  | (refine I.pk ?_; first | refine WX.pickT rfl rfl rfl ?_ | refine WX.pickF rfl rfl rfl ?_)
  | (refine I.bi ?_; first | refine WX.lenSl rfl (by assumption) rfl ?_ | refine WX.len rfl rfl ?_ | refine WX.lenS rfl rfl ?_ | refine WX.min rfl rfl rfl ?_ | refine WX.max rfl rfl rfl ?_)
  | (refine I.ix ?_; first | refine WX.idx rfl rfl (by assumption) (by assumption) rfl ?_ | refine WX.idxI rfl rfl (by assumption) (by omega) (by assumption) rfl ?_)
  | (refine I.sl ?_; refine WX.slTo rfl rfl (by assumption) (by omega) rfl ?_)
  | (refine I.st ?_; first | (refine WX.store rfl rfl rfl rfl ?_; try simp only [List.set_cons_zero, List.set_cons_succ, Nat.reduceAdd]) | (refine WX.storeG rfl rfl rfl rfl rfl rfl ?_; try simp only [setAt, List.set_cons_zero, List.set_cons_succ, Nat.reduceAdd]))
  | (refine I.bd ?_; refine WX.build rfl rfl rfl ?_; try simp only [setAt, Value.cells, List.set_cons_zero, List.set_cons_succ]) | (refine I.bx ?_; refine WX.box rfl rfl rfl (fun _ => ?_)) | (refine I.al ?_; refine WX.alloc rfl (fun _ => ?_)) | (refine I.ex ?_; refine WX.extract rfl rfl rfl ?_))
      refine WX.lit (ys := [(k : Int)]) rfl rfl rfl rfl rfl rfl (by decide) rfl (fun v1 h1 hs1 => ?_)
      refine WX.app rfl rfl hu hs1.rs rfl rfl (by decide) (by simp only [List.length_cons, List.length_nil]; omega) rfl (fun v2 h2 hs2 => ?_)
      repeat' (first
  | refine W.seq ?_ | refine W.region ?_ | refine WX.nil ?_ | refine D.seq ?_ | refine W.block ?_ | refine D.blk ?_ | refine W.skip ?_ | refine W.exit ?_ | refine W.ret ?_
  | refine WM.nil ?_ | refine WM.un ?_ | refine WM.an ?_ | refine WM.backU ?_ | refine WM.back ?_
  | refine D.blkX ?_ | refine D.blkY rfl ?_ | refine D.roundX ?_ | refine D.roundR ?_ | refine D.blkR ?_
  | (refine I.gd ?_; first | refine WX.gy rfl rfl ?_ | refine WX.gn rfl rfl rfl rfl ?_ | refine WX.gnN rfl rfl rfl ?_ | refine WX.gT rfl rfl (by first | assumption | omega) ?_ | refine WX.gF rfl rfl (by first | assumption | omega) ?_ | refine WX.gS rfl rfl (fun _ => ?_) (fun _ => ?_))
  | (refine I.cond ?_; first | refine W.condT rfl ?_ | refine W.condF rfl ?_ | refine W.condP rfl (by first | assumption | omega) ?_ | refine W.condN rfl (by first | assumption | omega) ?_)
  | (refine I.mv ?_; refine WX.move rfl rfl ?_) | (refine I.as ?_; refine WX.assign rfl rfl ?_)
  | (refine I.nc ?_; first | refine WX.nilCheck rfl rfl ?_ | refine WX.nilE rfl (by assumption) (by assumption) rfl ?_)
  | (refine I.fa ?_; first | refine WX.fieldAddr rfl rfl ?_ | refine WX.fieldE rfl (by assumption) (by assumption) rfl ?_)
  | (refine I.ld ?_; first | refine WX.load rfl rfl rfl ?_ | refine WX.loadE rfl (by assumption) (by assumption) rfl rfl rfl ?_ | refine WX.loadA rfl rfl rfl rfl ?_)
  | (refine I.bin ?_; first | refine WX.lss rfl rfl rfl ?_ | refine WX.eql rfl rfl rfl ?_ | refine WX.neq rfl rfl rfl ?_ | refine WX.leq rfl rfl rfl ?_ | refine WX.gtr rfl rfl rfl ?_ | refine WX.geq rfl rfl rfl ?_ | refine WX.add rfl rfl rfl (by omega) ?_ | refine WX.sub' rfl rfl rfl (by omega) ?_ | refine WX.eqPN rfl rfl rfl ?_ | refine WX.nePN rfl rfl rfl ?_ | refine WX.eqNN rfl rfl rfl ?_ | refine WX.neNN rfl rfl rfl ?_)
  | (refine I.un ?_; first | refine WX.notD rfl rfl ?_ | refine WX.not rfl rfl ?_)
  | (refine I.pk ?_; first | refine WX.pickT rfl rfl rfl ?_ | refine WX.pickF rfl rfl rfl ?_)
  | (refine I.bi ?_; first | refine WX.lenSl rfl (by assumption) rfl ?_ | refine WX.len rfl rfl ?_ | refine WX.lenS rfl rfl ?_ | refine WX.min rfl rfl rfl ?_ | refine WX.max rfl rfl rfl ?_)
  | (refine I.ix ?_; first | refine WX.idx rfl rfl (by assumption) (by assumption) rfl ?_ | refine WX.idxI rfl rfl (by assumption) (by omega) (by assumption) rfl ?_)
  | (refine I.sl ?_; refine WX.slTo rfl rfl (by assumption) (by omega) rfl ?_)
  | (refine I.st ?_; first | (refine WX.store rfl rfl rfl rfl ?_; try simp only [List.set_cons_zero, List.set_cons_succ, Nat.reduceAdd]) | (refine WX.storeG rfl rfl rfl rfl rfl rfl ?_; try simp only [setAt, List.set_cons_zero, List.set_cons_succ, Nat.reduceAdd]))
  | (refine I.bd ?_; refine WX.build rfl rfl rfl ?_; try simp only [setAt, Value.cells, List.set_cons_zero, List.set_cons_succ]) | (refine I.bx ?_; refine WX.box rfl rfl rfl (fun _ => ?_)) | (refine I.al ?_; refine WX.alloc rfl (fun _ => ?_)) | (refine I.ex ?_; refine WX.extract rfl rfl rfl ?_))
      exact D.round (k + 1, v2, h2) ⟨by simp only []; omega, by simp only []; rw [silK_succ hx, if_pos hc]; exact hs2⟩ (by simp only []; omega) (by repeat (first | exact Fsub.nil | refine Fsub.cons rfl ?_)) (Hsub.of_picks inferInstance)
    · repeat' (first
  | refine W.seq ?_ | refine W.region ?_ | refine WX.nil ?_ | refine D.seq ?_ | refine W.block ?_ | refine D.blk ?_ | refine W.skip ?_ | refine W.exit ?_ | refine W.ret ?_
  | refine WM.nil ?_ | refine WM.un ?_ | refine WM.an ?_ | refine WM.backU ?_ | refine WM.back ?_
  | refine D.blkX ?_ | refine D.blkY rfl ?_ | refine D.roundX ?_ | refine D.roundR ?_ | refine D.blkR ?_
  | (refine I.gd ?_; first | refine WX.gy rfl rfl ?_ | refine WX.gn rfl rfl rfl rfl ?_ | refine WX.gnN rfl rfl rfl ?_ | refine WX.gT rfl rfl (by first | assumption | omega) ?_ | refine WX.gF rfl rfl (by first | assumption | omega) ?_ | refine WX.gS rfl rfl (fun _ => ?_) (fun _ => ?_))
  | (refine I.cond ?_; first | refine W.condT rfl ?_ | refine W.condF rfl ?_ | refine W.condP rfl (by first | assumption | omega) ?_ | refine W.condN rfl (by first | assumption | omega) ?_)
  | (refine I.mv ?_; refine WX.move rfl rfl ?_) | (refine I.as ?_; refine WX.assign rfl rfl ?_)
  | (refine I.nc ?_; first | refine WX.nilCheck rfl rfl ?_ | refine WX.nilE rfl (by assumption) (by assumption) rfl ?_)
  | (refine I.fa ?_; first | refine WX.fieldAddr rfl rfl ?_ | refine WX.fieldE rfl (by assumption) (by assumption) rfl ?_)
  | (refine I.ld ?_; first | refine WX.load rfl rfl rfl ?_ | refine WX.loadE rfl (by assumption) (by assumption) rfl rfl rfl ?_ | refine WX.loadA rfl rfl rfl rfl ?_)
  | (refine I.bin ?_; first | refine WX.lss rfl rfl rfl ?_ | refine WX.eql rfl rfl rfl ?_ | refine WX.neq rfl rfl rfl ?_ | refine WX.leq rfl rfl rfl ?_ | refine WX.gtr rfl rfl rfl ?_ | refine WX.geq rfl rfl rfl ?_ | refine WX.add rfl rfl rfl (by omega) ?_ | refine WX.sub' rfl rfl rfl (by omega) ?_ | refine WX.eqPN rfl rfl rfl ?_ | refine WX.nePN rfl rfl rfl ?_ | refine WX.eqNN rfl rfl rfl ?_ | refine WX.neNN rfl rfl rfl ?_)
  | (refine I.un ?_; first | refine WX.notD rfl rfl ?_ | refine WX.not rfl rfl ?_)
  | (refine I.pk ?_; first | refine WX.pickT rfl rfl rfl ?_ | refine WX.pickF rfl rfl rfl ?_)
  | (refine I.bi ?_; first | refine WX.lenSl rfl (by assumption) rfl ?_ | refine WX.len rfl rfl ?_ | refine WX.lenS rfl rfl ?_ | refine WX.min rfl rfl rfl ?_ | refine WX.max rfl rfl rfl ?_)
  | (refine I.ix ?_; first | refine WX.idx rfl rfl (by assumption) (by assumption) rfl ?_ | refine WX.idxI rfl rfl (by assumption) (by omega) (by assumption) rfl ?_)
  | (refine I.sl ?_; refine WX.slTo rfl rfl (by assumption) (by omega) rfl ?_)
  | (refine I.st ?_; first | (refine WX.store rfl rfl rfl rfl ?_; try simp only [List.set_cons_zero, List.set_cons_succ, Nat.reduceAdd]) | (refine WX.storeG rfl rfl rfl rfl rfl rfl ?_; try simp only [setAt, List.set_cons_zero, List.set_cons_succ, Nat.reduceAdd]))
  | (refine I.bd ?_; refine WX.build rfl rfl rfl ?_; try simp only [setAt, Value.cells, List.set_cons_zero, List.set_cons_succ]) | (refine I.bx ?_; refine WX.box rfl rfl rfl (fun _ => ?_)) | (refine I.al ?_; refine WX.alloc rfl (fun _ => ?_)) | (refine I.ex ?_; refine WX.extract rfl rfl rfl ?_))
      exact D.round (k + 1, u, h') ⟨by simp only []; omega, by simp only []; rw [silK_succ hx, if_neg hc]; exact hu⟩ (by simp only []; omega) (by repeat (first | exact Fsub.nil | refine Fsub.cons rfl ?_)) (Hsub.of_picks inferInstance)
  · repeat' (first
  | refine W.seq ?_ | refine W.region ?_ | refine WX.nil ?_ | refine D.seq ?_ | refine W.block ?_ | refine D.blk ?_ | refine W.skip ?_ | refine W.exit ?_ | refine W.ret ?_
  | refine WM.nil ?_ | refine WM.un ?_ | refine WM.an ?_ | refine WM.backU ?_ | refine WM.back ?_
  | refine D.blkX ?_ | refine D.blkY rfl ?_ | refine D.roundX ?_ | refine D.roundR ?_ | refine D.blkR ?_
  | (refine I.gd ?_; first | refine WX.gy rfl rfl ?_ | refine WX.gn rfl rfl rfl rfl ?_ | refine WX.gnN rfl rfl rfl ?_ | refine WX.gT rfl rfl (by first | assumption | omega) ?_ | refine WX.gF rfl rfl (by first | assumption | omega) ?_ | refine WX.gS rfl rfl (fun _ => ?_) (fun _ => ?_))
  | (refine I.cond ?_; first | refine W.condT rfl ?_ | refine W.condF rfl ?_ | refine W.condP rfl (by first | assumption | omega) ?_ | refine W.condN rfl (by first | assumption | omega) ?_)
  | (refine I.mv ?_; refine WX.move rfl rfl ?_) | (refine I.as ?_; refine WX.assign rfl rfl ?_)
  | (refine I.nc ?_; first | refine WX.nilCheck rfl rfl ?_ | refine WX.nilE rfl (by assumption) (by assumption) rfl ?_)
  | (refine I.fa ?_; first | refine WX.fieldAddr rfl rfl ?_ | refine WX.fieldE rfl (by assumption) (by assumption) rfl ?_)
  | (refine I.ld ?_; first | refine WX.load rfl rfl rfl ?_ | refine WX.loadE rfl (by assumption) (by assumption) rfl rfl rfl ?_ | refine WX.loadA rfl rfl rfl rfl ?_)
  | (refine I.bin ?_; first | refine WX.lss rfl rfl rfl ?_ | refine WX.eql rfl rfl rfl ?_ | refine WX.neq rfl rfl rfl ?_ | refine WX.leq rfl rfl rfl ?_ | refine WX.gtr rfl rfl rfl ?_ | refine WX.geq rfl rfl rfl ?_ | refine WX.add rfl rfl rfl (by omega) ?_ | refine WX.sub' rfl rfl rfl (by omega) ?_ | refine WX.eqPN rfl rfl rfl ?_ | refine WX.nePN rfl rfl rfl ?_ | refine WX.eqNN rfl rfl rfl ?_ | refine WX.neNN rfl rfl rfl ?_)
  | (refine I.un ?_; first | refine WX.notD rfl rfl ?_ | refine WX.not rfl rfl ?_)
  | (refine I.pk ?_; first | refine WX.pickT rfl rfl rfl ?_ | refine WX.pickF rfl rfl rfl ?_)
  | (refine I.bi ?_; first | refine WX.lenSl rfl (by assumption) rfl ?_ | refine WX.len rfl rfl ?_ | refine WX.lenS rfl rfl ?_ | refine WX.min rfl rfl rfl ?_ | refine WX.max rfl rfl rfl ?_)
  | (refine I.ix ?_; first | refine WX.idx rfl rfl (by assumption) (by assumption) rfl ?_ | refine WX.idxI rfl rfl (by assumption) (by omega) (by assumption) rfl ?_)
  | (refine I.sl ?_; refine WX.slTo rfl rfl (by assumption) (by omega) rfl ?_)
  | (refine I.st ?_; first | (refine WX.store rfl rfl rfl rfl ?_; try simp only [List.set_cons_zero, List.set_cons_succ, Nat.reduceAdd]) | (refine WX.storeG rfl rfl rfl rfl rfl rfl ?_; try simp only [setAt, List.set_cons_zero, List.set_cons_succ, Nat.reduceAdd]))
  | (refine I.bd ?_; refine WX.build rfl rfl rfl ?_; try simp only [setAt, Value.cells, List.set_cons_zero, List.set_cons_succ]) | (refine I.bx ?_; refine WX.box rfl rfl rfl (fun _ => ?_)) | (refine I.al ?_; refine WX.alloc rfl (fun _ => ?_)) | (refine I.ex ?_; refine WX.extract rfl rfl rfl ?_))
    obtain rfl : k = xs.length := by omega
    exact D.fin1 [(b, .cells (List.toArray [v]) 37 (0, 0)) :: hv, h'] _ rfl rfl ⟨h', rfl, hu⟩

theorem rnew_ct (n : Int) :
    Ct Try.prog 15 [.int .i64 n] [] (fun v H' => ∃ b h', v = .pointer (some ⟨b, 0, none⟩) ∧ H' = [h'] ∧ WAt 37 b (List.replicate (newN n) 0) h') := by
  refine Ct.mk' Try.func15 rfl rfl rfl (fun g R => ?_)
  try simp only [List.cons_append]
  simp only [List.nil_append]
  repeat' (first
  | refine W.seq ?_ | refine W.region ?_ | refine WX.nil ?_ | refine D.seq ?_ | refine W.block ?_ | refine D.blk ?_ | refine W.skip ?_ | refine W.exit ?_ | refine W.ret ?_
  | refine WM.nil ?_ | refine WM.un ?_ | refine WM.an ?_ | refine WM.backU ?_ | refine WM.back ?_
  | refine D.blkX ?_ | refine D.blkY rfl ?_ | refine D.roundX ?_ | refine D.roundR ?_ | refine D.blkR ?_
  | (refine I.gd ?_; first | refine WX.gy rfl rfl ?_ | refine WX.gn rfl rfl rfl rfl ?_ | refine WX.gnN rfl rfl rfl ?_ | refine WX.gT rfl rfl (by first | assumption | omega) ?_ | refine WX.gF rfl rfl (by first | assumption | omega) ?_ | refine WX.gS rfl rfl (fun _ => ?_) (fun _ => ?_))
  | (refine I.cond ?_; first | refine W.condT rfl ?_ | refine W.condF rfl ?_ | refine W.condP rfl (by first | assumption | omega) ?_ | refine W.condN rfl (by first | assumption | omega) ?_)
  | (refine I.mv ?_; refine WX.move rfl rfl ?_) | (refine I.as ?_; refine WX.assign rfl rfl ?_)
  | (refine I.nc ?_; first | refine WX.nilCheck rfl rfl ?_ | refine WX.nilE rfl (by assumption) (by assumption) rfl ?_)
  | (refine I.fa ?_; first | refine WX.fieldAddr rfl rfl ?_ | refine WX.fieldE rfl (by assumption) (by assumption) rfl ?_)
  | (refine I.ld ?_; first | refine WX.load rfl rfl rfl ?_ | refine WX.loadE rfl (by assumption) (by assumption) rfl rfl rfl ?_ | refine WX.loadA rfl rfl rfl rfl ?_)
  | (refine I.bin ?_; first | refine WX.lss rfl rfl rfl ?_ | refine WX.eql rfl rfl rfl ?_ | refine WX.neq rfl rfl rfl ?_ | refine WX.leq rfl rfl rfl ?_ | refine WX.gtr rfl rfl rfl ?_ | refine WX.geq rfl rfl rfl ?_ | refine WX.add rfl rfl rfl (by omega) ?_ | refine WX.sub' rfl rfl rfl (by omega) ?_ | refine WX.eqPN rfl rfl rfl ?_ | refine WX.nePN rfl rfl rfl ?_ | refine WX.eqNN rfl rfl rfl ?_ | refine WX.neNN rfl rfl rfl ?_)
  | (refine I.un ?_; first | refine WX.notD rfl rfl ?_ | refine WX.not rfl rfl ?_)
  | (refine I.pk ?_; first | refine WX.pickT rfl rfl rfl ?_ | refine WX.pickF rfl rfl rfl ?_)
  | (refine I.bi ?_; first | refine WX.lenSl rfl (by assumption) rfl ?_ | refine WX.len rfl rfl ?_ | refine WX.lenS rfl rfl ?_ | refine WX.min rfl rfl rfl ?_ | refine WX.max rfl rfl rfl ?_)
  | (refine I.ix ?_; first | refine WX.idx rfl rfl (by assumption) (by assumption) rfl ?_ | refine WX.idxI rfl rfl (by assumption) (by omega) (by assumption) rfl ?_)
  | (refine I.sl ?_; refine WX.slTo rfl rfl (by assumption) (by omega) rfl ?_)
  | (refine I.st ?_; first | (refine WX.store rfl rfl rfl rfl ?_; try simp only [List.set_cons_zero, List.set_cons_succ, Nat.reduceAdd]) | (refine WX.storeG rfl rfl rfl rfl rfl rfl ?_; try simp only [setAt, List.set_cons_zero, List.set_cons_succ, Nat.reduceAdd]))
  | (refine I.bd ?_; refine WX.build rfl rfl rfl ?_; try simp only [setAt, Value.cells, List.set_cons_zero, List.set_cons_succ]) | (refine I.bx ?_; refine WX.box rfl rfl rfl (fun _ => ?_)) | (refine I.al ?_; refine WX.alloc rfl (fun _ => ?_)) | (refine I.ex ?_; refine WX.extract rfl rfl rfl ?_))
  rename_i b
  have hle := newN_le n
  have hnn : (newN n : Int) ≤ n ∨ newN n = 0 := by unfold newN; split <;> (try split) <;> omega
  have hnm : n < 64 → (newN n : Int) = n ∨ n < 0 := by unfold newN; split <;> (try split) <;> omega
  have hn64 : 64 ≤ n → newN n = 64 := by unfold newN; split <;> (try split) <;> omega
  refine W.loop (α := Nat × Value × Hp) (fun x => x.1 ≤ newN n ∧ IsSl 3 (List.replicate x.1 (0 : Int)) x.2.1 x.2.2)
    (fun x => [(0, .int .i64 n), (3, .pointer (some ⟨b, 0, none⟩)), (4, .int .i64 (x.1 : Int))]) (fun x => [[(b, .cells (List.toArray [x.2.1]) 37 (0, 0))], x.2.2, R]) (fun x => newN n - x.1)
    (0, .slice none 0 0, []) ⟨by omega, IsSl.nil (α := Int) 3⟩ (by repeat (first | exact Fsub.nil | refine Fsub.cons rfl ?_)) (Hsub.of_picks inferInstance) ?_
  rintro ⟨k, u, h'⟩ ⟨hk, hu⟩
  simp only [] at hk hu ⊢
  have hul : (List.replicate k (0 : Int)).length = k := List.length_replicate
  by_cases hlt : k < newN n
  · have h1 : (k : Int) < n := by omega
    have h2 : (k : Int) < 64 := by omega
    repeat' (first
  | refine W.seq ?_ | refine W.region ?_ | refine WX.nil ?_ | refine D.seq ?_ | refine W.block ?_ | refine D.blk ?_ | refine W.skip ?_ | refine W.exit ?_ | refine W.ret ?_
  | refine WM.nil ?_ | refine WM.un ?_ | refine WM.an ?_ | refine WM.backU ?_ | refine WM.back ?_
  | refine D.blkX ?_ | refine D.blkY rfl ?_ | refine D.roundX ?_ | refine D.roundR ?_ | refine D.blkR ?_
  | (refine I.gd ?_; first | refine WX.gy rfl rfl ?_ | refine WX.gn rfl rfl rfl rfl ?_ | refine WX.gnN rfl rfl rfl ?_ | refine WX.gT rfl rfl (by first | assumption | omega) ?_ | refine WX.gF rfl rfl (by first | assumption | omega) ?_ | refine WX.gS rfl rfl (fun _ => ?_) (fun _ => ?_))
  | (refine I.cond ?_; first | refine W.condT rfl ?_ | refine W.condF rfl ?_ | refine W.condP rfl (by first | assumption | omega) ?_ | refine W.condN rfl (by first | assumption | omega) ?_)
  | (refine I.mv ?_; refine WX.move rfl rfl ?_) | (refine I.as ?_; refine WX.assign rfl rfl ?_)
  | (refine I.nc ?_; first | refine WX.nilCheck rfl rfl ?_ | refine WX.nilE rfl (by assumption) (by assumption) rfl ?_)
  | (refine I.fa ?_; first | refine WX.fieldAddr rfl rfl ?_ | refine WX.fieldE rfl (by assumption) (by assumption) rfl ?_)
  | (refine I.ld ?_; first | refine WX.load rfl rfl rfl ?_ | refine WX.loadE rfl (by assumption) (by assumption) rfl rfl rfl ?_ | refine WX.loadA rfl rfl rfl rfl ?_)
  | (refine I.bin ?_; first | refine WX.lss rfl rfl rfl ?_ | refine WX.eql rfl rfl rfl ?_ | refine WX.neq rfl rfl rfl ?_ | refine WX.leq rfl rfl rfl ?_ | refine WX.gtr rfl rfl rfl ?_ | refine WX.geq rfl rfl rfl ?_ | refine WX.add rfl rfl rfl (by omega) ?_ | refine WX.sub' rfl rfl rfl (by omega) ?_ | refine WX.eqPN rfl rfl rfl ?_ | refine WX.nePN rfl rfl rfl ?_ | refine WX.eqNN rfl rfl rfl ?_ | refine WX.neNN rfl rfl rfl ?_)
  | (refine I.un ?_; first | refine WX.notD rfl rfl ?_ | refine WX.not rfl rfl ?_)
  | (refine I.pk ?_; first | refine WX.pickT rfl rfl rfl ?_ | refine WX.pickF rfl rfl rfl ?_)
  | (refine I.bi ?_; first | refine WX.lenSl rfl (by assumption) rfl ?_ | refine WX.len rfl rfl ?_ | refine WX.lenS rfl rfl ?_ | refine WX.min rfl rfl rfl ?_ | refine WX.max rfl rfl rfl ?_)
  | (refine I.ix ?_; first | refine WX.idx rfl rfl (by assumption) (by assumption) rfl ?_ | refine WX.idxI rfl rfl (by assumption) (by omega) (by assumption) rfl ?_)
  | (refine I.sl ?_; refine WX.slTo rfl rfl (by assumption) (by omega) rfl ?_)
  | (refine I.st ?_; first | (refine WX.store rfl rfl rfl rfl ?_; try simp only [List.set_cons_zero, List.set_cons_succ, Nat.reduceAdd]) | (refine WX.storeG rfl rfl rfl rfl rfl rfl ?_; try simp only [setAt, List.set_cons_zero, List.set_cons_succ, Nat.reduceAdd]))
  | (refine I.bd ?_; refine WX.build rfl rfl rfl ?_; try simp only [setAt, Value.cells, List.set_cons_zero, List.set_cons_succ]) | (refine I.bx ?_; refine WX.box rfl rfl rfl (fun _ => ?_)) | (refine I.al ?_; refine WX.alloc rfl (fun _ => ?_)) | (refine I.ex ?_; refine WX.extract rfl rfl rfl ?_))
    refine WX.lit (ys := [(0 : Int)]) rfl rfl rfl rfl rfl rfl (by decide) rfl (fun v1 h1 hs1 => ?_)
    refine WX.app rfl rfl hu hs1.rs rfl rfl (by decide) (by simp only [List.length_cons, List.length_nil]; omega) rfl (fun v2 h2 hs2 => ?_)
    obtain ⟨p, l, hv2⟩ := hs2.rs.len
    subst hv2
    repeat' (first
  | refine W.seq ?_ | refine W.region ?_ | refine WX.nil ?_ | refine D.seq ?_ | refine W.block ?_ | refine D.blk ?_ | refine W.skip ?_ | refine W.exit ?_ | refine W.ret ?_
  | refine WM.nil ?_ | refine WM.un ?_ | refine WM.an ?_ | refine WM.backU ?_ | refine WM.back ?_
  | refine D.blkX ?_ | refine D.blkY rfl ?_ | refine D.roundX ?_ | refine D.roundR ?_ | refine D.blkR ?_
  | (refine I.gd ?_; first | refine WX.gy rfl rfl ?_ | refine WX.gn rfl rfl rfl rfl ?_ | refine WX.gnN rfl rfl rfl ?_ | refine WX.gT rfl rfl (by first | assumption | omega) ?_ | refine WX.gF rfl rfl (by first | assumption | omega) ?_ | refine WX.gS rfl rfl (fun _ => ?_) (fun _ => ?_))
  | (refine I.cond ?_; first | refine W.condT rfl ?_ | refine W.condF rfl ?_ | refine W.condP rfl (by first | assumption | omega) ?_ | refine W.condN rfl (by first | assumption | omega) ?_)
  | (refine I.mv ?_; refine WX.move rfl rfl ?_) | (refine I.as ?_; refine WX.assign rfl rfl ?_)
  | (refine I.nc ?_; first | refine WX.nilCheck rfl rfl ?_ | refine WX.nilE rfl (by assumption) (by assumption) rfl ?_)
  | (refine I.fa ?_; first | refine WX.fieldAddr rfl rfl ?_ | refine WX.fieldE rfl (by assumption) (by assumption) rfl ?_)
  | (refine I.ld ?_; first | refine WX.load rfl rfl rfl ?_ | refine WX.loadE rfl (by assumption) (by assumption) rfl rfl rfl ?_ | refine WX.loadA rfl rfl rfl rfl ?_)
  | (refine I.bin ?_; first | refine WX.lss rfl rfl rfl ?_ | refine WX.eql rfl rfl rfl ?_ | refine WX.neq rfl rfl rfl ?_ | refine WX.leq rfl rfl rfl ?_ | refine WX.gtr rfl rfl rfl ?_ | refine WX.geq rfl rfl rfl ?_ | refine WX.add rfl rfl rfl (by omega) ?_ | refine WX.sub' rfl rfl rfl (by omega) ?_ | refine WX.eqPN rfl rfl rfl ?_ | refine WX.nePN rfl rfl rfl ?_ | refine WX.eqNN rfl rfl rfl ?_ | refine WX.neNN rfl rfl rfl ?_)
  | (refine I.un ?_; first | refine WX.notD rfl rfl ?_ | refine WX.not rfl rfl ?_)
  | (refine I.pk ?_; first | refine WX.pickT rfl rfl rfl ?_ | refine WX.pickF rfl rfl rfl ?_)
  | (refine I.bi ?_; first | refine WX.lenSl rfl (by assumption) rfl ?_ | refine WX.len rfl rfl ?_ | refine WX.lenS rfl rfl ?_ | refine WX.min rfl rfl rfl ?_ | refine WX.max rfl rfl rfl ?_)
  | (refine I.ix ?_; first | refine WX.idx rfl rfl (by assumption) (by assumption) rfl ?_ | refine WX.idxI rfl rfl (by assumption) (by omega) (by assumption) rfl ?_)
  | (refine I.sl ?_; refine WX.slTo rfl rfl (by assumption) (by omega) rfl ?_)
  | (refine I.st ?_; first | (refine WX.store rfl rfl rfl rfl ?_; try simp only [List.set_cons_zero, List.set_cons_succ, Nat.reduceAdd]) | (refine WX.storeG rfl rfl rfl rfl rfl rfl ?_; try simp only [setAt, List.set_cons_zero, List.set_cons_succ, Nat.reduceAdd]))
  | (refine I.bd ?_; refine WX.build rfl rfl rfl ?_; try simp only [setAt, Value.cells, List.set_cons_zero, List.set_cons_succ]) | (refine I.bx ?_; refine WX.box rfl rfl rfl (fun _ => ?_)) | (refine I.al ?_; refine WX.alloc rfl (fun _ => ?_)) | (refine I.ex ?_; refine WX.extract rfl rfl rfl ?_))
    exact D.round (k + 1, .slice p (List.replicate k (0 : Int) ++ [0]).length l, h2) ⟨by simp only []; omega, by simp only []; rw [List.replicate_succ']; exact hs2⟩ (by simp only []; omega) (by repeat (first | exact Fsub.nil | refine Fsub.cons rfl ?_)) (Hsub.of_picks inferInstance)
  · obtain rfl : k = newN n := by omega
    by_cases h1 : (newN n : Int) < n
    · have h2 : ¬ (newN n : Int) < 64 := by omega
      repeat' (first
  | refine W.seq ?_ | refine W.region ?_ | refine WX.nil ?_ | refine D.seq ?_ | refine W.block ?_ | refine D.blk ?_ | refine W.skip ?_ | refine W.exit ?_ | refine W.ret ?_
  | refine WM.nil ?_ | refine WM.un ?_ | refine WM.an ?_ | refine WM.backU ?_ | refine WM.back ?_
  | refine D.blkX ?_ | refine D.blkY rfl ?_ | refine D.roundX ?_ | refine D.roundR ?_ | refine D.blkR ?_
  | (refine I.gd ?_; first | refine WX.gy rfl rfl ?_ | refine WX.gn rfl rfl rfl rfl ?_ | refine WX.gnN rfl rfl rfl ?_ | refine WX.gT rfl rfl (by first | assumption | omega) ?_ | refine WX.gF rfl rfl (by first | assumption | omega) ?_ | refine WX.gS rfl rfl (fun _ => ?_) (fun _ => ?_))
  | (refine I.cond ?_; first | refine W.condT rfl ?_ | refine W.condF rfl ?_ | refine W.condP rfl (by first | assumption | omega) ?_ | refine W.condN rfl (by first | assumption | omega) ?_)
  | (refine I.mv ?_; refine WX.move rfl rfl ?_) | (refine I.as ?_; refine WX.assign rfl rfl ?_)
  | (refine I.nc ?_; first | refine WX.nilCheck rfl rfl ?_ | refine WX.nilE rfl (by assumption) (by assumption) rfl ?_)
  | (refine I.fa ?_; first | refine WX.fieldAddr rfl rfl ?_ | refine WX.fieldE rfl (by assumption) (by assumption) rfl ?_)
  | (refine I.ld ?_; first | refine WX.load rfl rfl rfl ?_ | refine WX.loadE rfl (by assumption) (by assumption) rfl rfl rfl ?_ | refine WX.loadA rfl rfl rfl rfl ?_)
  | (refine I.bin ?_; first | refine WX.lss rfl rfl rfl ?_ | refine WX.eql rfl rfl rfl ?_ | refine WX.neq rfl rfl rfl ?_ | refine WX.leq rfl rfl rfl ?_ | refine WX.gtr rfl rfl rfl ?_ | refine WX.geq rfl rfl rfl ?_ | refine WX.add rfl rfl rfl (by omega) ?_ | refine WX.sub' rfl rfl rfl (by omega) ?_ | refine WX.eqPN rfl rfl rfl ?_ | refine WX.nePN rfl rfl rfl ?_ | refine WX.eqNN rfl rfl rfl ?_ | refine WX.neNN rfl rfl rfl ?_)
  | (refine I.un ?_; first | refine WX.notD rfl rfl ?_ | refine WX.not rfl rfl ?_)
  | (refine I.pk ?_; first | refine WX.pickT rfl rfl rfl ?_ | refine WX.pickF rfl rfl rfl ?_)
  | (refine I.bi ?_; first | refine WX.lenSl rfl (by assumption) rfl ?_ | refine WX.len rfl rfl ?_ | refine WX.lenS rfl rfl ?_ | refine WX.min rfl rfl rfl ?_ | refine WX.max rfl rfl rfl ?_)
  | (refine I.ix ?_; first | refine WX.idx rfl rfl (by assumption) (by assumption) rfl ?_ | refine WX.idxI rfl rfl (by assumption) (by omega) (by assumption) rfl ?_)
  | (refine I.sl ?_; refine WX.slTo rfl rfl (by assumption) (by omega) rfl ?_)
  | (refine I.st ?_; first | (refine WX.store rfl rfl rfl rfl ?_; try simp only [List.set_cons_zero, List.set_cons_succ, Nat.reduceAdd]) | (refine WX.storeG rfl rfl rfl rfl rfl rfl ?_; try simp only [setAt, List.set_cons_zero, List.set_cons_succ, Nat.reduceAdd]))
  | (refine I.bd ?_; refine WX.build rfl rfl rfl ?_; try simp only [setAt, Value.cells, List.set_cons_zero, List.set_cons_succ]) | (refine I.bx ?_; refine WX.box rfl rfl rfl (fun _ => ?_)) | (refine I.al ?_; refine WX.alloc rfl (fun _ => ?_)) | (refine I.ex ?_; refine WX.extract rfl rfl rfl ?_))
      exact D.fin1 [(b, .cells (List.toArray [u]) 37 (0, 0)) :: h'] _ rfl rfl ⟨b, _, rfl, rfl, u, h', rfl, hu⟩
    · repeat' (first
  | refine W.seq ?_ | refine W.region ?_ | refine WX.nil ?_ | refine D.seq ?_ | refine W.block ?_ | refine D.blk ?_ | refine W.skip ?_ | refine W.exit ?_ | refine W.ret ?_
  | refine WM.nil ?_ | refine WM.un ?_ | refine WM.an ?_ | refine WM.backU ?_ | refine WM.back ?_
  | refine D.blkX ?_ | refine D.blkY rfl ?_ | refine D.roundX ?_ | refine D.roundR ?_ | refine D.blkR ?_
  | (refine I.gd ?_; first | refine WX.gy rfl rfl ?_ | refine WX.gn rfl rfl rfl rfl ?_ | refine WX.gnN rfl rfl rfl ?_ | refine WX.gT rfl rfl (by first | assumption | omega) ?_ | refine WX.gF rfl rfl (by first | assumption | omega) ?_ | refine WX.gS rfl rfl (fun _ => ?_) (fun _ => ?_))
  | (refine I.cond ?_; first | refine W.condT rfl ?_ | refine W.condF rfl ?_ | refine W.condP rfl (by first | assumption | omega) ?_ | refine W.condN rfl (by first | assumption | omega) ?_)
  | (refine I.mv ?_; refine WX.move rfl rfl ?_) | (refine I.as ?_; refine WX.assign rfl rfl ?_)
  | (refine I.nc ?_; first | refine WX.nilCheck rfl rfl ?_ | refine WX.nilE rfl (by assumption) (by assumption) rfl ?_)
  | (refine I.fa ?_; first | refine WX.fieldAddr rfl rfl ?_ | refine WX.fieldE rfl (by assumption) (by assumption) rfl ?_)
  | (refine I.ld ?_; first | refine WX.load rfl rfl rfl ?_ | refine WX.loadE rfl (by assumption) (by assumption) rfl rfl rfl ?_ | refine WX.loadA rfl rfl rfl rfl ?_)
  | (refine I.bin ?_; first | refine WX.lss rfl rfl rfl ?_ | refine WX.eql rfl rfl rfl ?_ | refine WX.neq rfl rfl rfl ?_ | refine WX.leq rfl rfl rfl ?_ | refine WX.gtr rfl rfl rfl ?_ | refine WX.geq rfl rfl rfl ?_ | refine WX.add rfl rfl rfl (by omega) ?_ | refine WX.sub' rfl rfl rfl (by omega) ?_ | refine WX.eqPN rfl rfl rfl ?_ | refine WX.nePN rfl rfl rfl ?_ | refine WX.eqNN rfl rfl rfl ?_ | refine WX.neNN rfl rfl rfl ?_)
  | (refine I.un ?_; first | refine WX.notD rfl rfl ?_ | refine WX.not rfl rfl ?_)
  | (refine I.pk ?_; first | refine WX.pickT rfl rfl rfl ?_ | refine WX.pickF rfl rfl rfl ?_)
  | (refine I.bi ?_; first | refine WX.lenSl rfl (by assumption) rfl ?_ | refine WX.len rfl rfl ?_ | refine WX.lenS rfl rfl ?_ | refine WX.min rfl rfl rfl ?_ | refine WX.max rfl rfl rfl ?_)
  | (refine I.ix ?_; first | refine WX.idx rfl rfl (by assumption) (by assumption) rfl ?_ | refine WX.idxI rfl rfl (by assumption) (by omega) (by assumption) rfl ?_)
  | (refine I.sl ?_; refine WX.slTo rfl rfl (by assumption) (by omega) rfl ?_)
  | (refine I.st ?_; first | (refine WX.store rfl rfl rfl rfl ?_; try simp only [List.set_cons_zero, List.set_cons_succ, Nat.reduceAdd]) | (refine WX.storeG rfl rfl rfl rfl rfl rfl ?_; try simp only [setAt, List.set_cons_zero, List.set_cons_succ, Nat.reduceAdd]))
  | (refine I.bd ?_; refine WX.build rfl rfl rfl ?_; try simp only [setAt, Value.cells, List.set_cons_zero, List.set_cons_succ]) | (refine I.bx ?_; refine WX.box rfl rfl rfl (fun _ => ?_)) | (refine I.al ?_; refine WX.alloc rfl (fun _ => ?_)) | (refine I.ex ?_; refine WX.extract rfl rfl rfl ?_))
      exact D.fin1 [(b, .cells (List.toArray [u]) 37 (0, 0)) :: h'] _ rfl rfl ⟨b, _, rfl, rfl, u, h', rfl, hu⟩

/-- Two lists of integers are held against each other. -/
theorem ints_ct {xs ys : List Int} {u v : Value} {h : Hp} (hx : Rs xs u h) (hy : Rs ys v h) (hb : xs.length ≤ 1000000) :
    Ct Try.prog 20 [u, v] [h] (fun r H' => r = .bool (decide (xs = ys)) ∧ H' = [h]) := by
  refine Ct.mk' Try.func20 rfl rfl rfl (fun g R => ?_)
  try simp only [List.cons_append]
  simp only [List.nil_append]
  by_cases hl : xs.length = ys.length
  · repeat' (first
  | refine W.seq ?_ | refine W.region ?_ | refine WX.nil ?_ | refine D.seq ?_ | refine W.block ?_ | refine D.blk ?_ | refine W.skip ?_ | refine W.exit ?_ | refine W.ret ?_
  | refine WM.nil ?_ | refine WM.un ?_ | refine WM.an ?_ | refine WM.backU ?_ | refine WM.back ?_
  | refine D.blkX ?_ | refine D.blkY rfl ?_ | refine D.roundX ?_ | refine D.roundR ?_ | refine D.blkR ?_
  | (refine I.gd ?_; first | refine WX.gy rfl rfl ?_ | refine WX.gn rfl rfl rfl rfl ?_ | refine WX.gnN rfl rfl rfl ?_ | refine WX.gT rfl rfl (by first | assumption | omega) ?_ | refine WX.gF rfl rfl (by first | assumption | omega) ?_ | refine WX.gS rfl rfl (fun _ => ?_) (fun _ => ?_))
  | (refine I.cond ?_; first | refine W.condT rfl ?_ | refine W.condF rfl ?_ | refine W.condP rfl (by first | assumption | omega) ?_ | refine W.condN rfl (by first | assumption | omega) ?_)
  | (refine I.mv ?_; refine WX.move rfl rfl ?_) | (refine I.as ?_; refine WX.assign rfl rfl ?_)
  | (refine I.nc ?_; first | refine WX.nilCheck rfl rfl ?_ | refine WX.nilE rfl (by assumption) (by assumption) rfl ?_)
  | (refine I.fa ?_; first | refine WX.fieldAddr rfl rfl ?_ | refine WX.fieldE rfl (by assumption) (by assumption) rfl ?_)
  | (refine I.ld ?_; first | refine WX.load rfl rfl rfl ?_ | refine WX.loadE rfl (by assumption) (by assumption) rfl rfl rfl ?_ | refine WX.loadA rfl rfl rfl rfl ?_)
  | (refine I.bin ?_; first | refine WX.lss rfl rfl rfl ?_ | refine WX.eql rfl rfl rfl ?_ | refine WX.neq rfl rfl rfl ?_ | refine WX.leq rfl rfl rfl ?_ | refine WX.gtr rfl rfl rfl ?_ | refine WX.geq rfl rfl rfl ?_ | refine WX.add rfl rfl rfl (by omega) ?_ | refine WX.sub' rfl rfl rfl (by omega) ?_ | refine WX.eqPN rfl rfl rfl ?_ | refine WX.nePN rfl rfl rfl ?_ | refine WX.eqNN rfl rfl rfl ?_ | refine WX.neNN rfl rfl rfl ?_)
  | (refine I.un ?_; first | refine WX.notD rfl rfl ?_ | refine WX.not rfl rfl ?_)
  | (refine I.pk ?_; first | refine WX.pickT rfl rfl rfl ?_ | refine WX.pickF rfl rfl rfl ?_)
  | (refine I.bi ?_; first | refine WX.lenSl rfl (by assumption) rfl ?_ | refine WX.len rfl rfl ?_ | refine WX.lenS rfl rfl ?_ | refine WX.min rfl rfl rfl ?_ | refine WX.max rfl rfl rfl ?_)
  | (refine I.ix ?_; first | refine WX.idx rfl rfl (by assumption) (by assumption) rfl ?_ | refine WX.idxI rfl rfl (by assumption) (by omega) (by assumption) rfl ?_)
  | (refine I.sl ?_; refine WX.slTo rfl rfl (by assumption) (by omega) rfl ?_)
  | (refine I.st ?_; first | (refine WX.store rfl rfl rfl rfl ?_; try simp only [List.set_cons_zero, List.set_cons_succ, Nat.reduceAdd]) | (refine WX.storeG rfl rfl rfl rfl rfl rfl ?_; try simp only [setAt, List.set_cons_zero, List.set_cons_succ, Nat.reduceAdd]))
  | (refine I.bd ?_; refine WX.build rfl rfl rfl ?_; try simp only [setAt, Value.cells, List.set_cons_zero, List.set_cons_succ]) | (refine I.bx ?_; refine WX.box rfl rfl rfl (fun _ => ?_)) | (refine I.al ?_; refine WX.alloc rfl (fun _ => ?_)) | (refine I.ex ?_; refine WX.extract rfl rfl rfl ?_))
    refine W.loop (α := Nat) (fun k => k ≤ xs.length ∧ xs.take k = ys.take k) (fun k => [(0, u), (1, v), (5, .int .i64 (k : Int))]) (fun _ => [h, R]) (fun k => xs.length - k) 0 ⟨by omega, by simp⟩ (by repeat (first | exact Fsub.nil | refine Fsub.cons rfl ?_)) (Hsub.of_picks inferInstance) ?_
    rintro k ⟨hk, he⟩
    by_cases hlt : k < xs.length
    · obtain ⟨x, hkx⟩ : ∃ x, xs[k]? = some x := ⟨_, List.getElem?_eq_getElem hlt⟩
      obtain ⟨y, hky⟩ : ∃ y, ys[k]? = some y := ⟨_, List.getElem?_eq_getElem (by omega)⟩
      repeat' (first
  | refine W.seq ?_ | refine W.region ?_ | refine WX.nil ?_ | refine D.seq ?_ | refine W.block ?_ | refine D.blk ?_ | refine W.skip ?_ | refine W.exit ?_ | refine W.ret ?_
  | refine WM.nil ?_ | refine WM.un ?_ | refine WM.an ?_ | refine WM.backU ?_ | refine WM.back ?_
  | refine D.blkX ?_ | refine D.blkY rfl ?_ | refine D.roundX ?_ | refine D.roundR ?_ | refine D.blkR ?_
  | (refine I.gd ?_; first | refine WX.gy rfl rfl ?_ | refine WX.gn rfl rfl rfl rfl ?_ | refine WX.gnN rfl rfl rfl ?_ | refine WX.gT rfl rfl (by first | assumption | omega) ?_ | refine WX.gF rfl rfl (by first | assumption | omega) ?_ | refine WX.gS rfl rfl (fun _ => ?_) (fun _ => ?_))
  | (refine I.cond ?_; first | refine W.condT rfl ?_ | refine W.condF rfl ?_ | refine W.condP rfl (by first | assumption | omega) ?_ | refine W.condN rfl (by first | assumption | omega) ?_)
  | (refine I.mv ?_; refine WX.move rfl rfl ?_) | (refine I.as ?_; refine WX.assign rfl rfl ?_)
  | (refine I.nc ?_; first | refine WX.nilCheck rfl rfl ?_ | refine WX.nilE rfl (by assumption) (by assumption) rfl ?_)
  | (refine I.fa ?_; first | refine WX.fieldAddr rfl rfl ?_ | refine WX.fieldE rfl (by assumption) (by assumption) rfl ?_)
  | (refine I.ld ?_; first | refine WX.load rfl rfl rfl ?_ | refine WX.loadE rfl (by assumption) (by assumption) rfl rfl rfl ?_ | refine WX.loadA rfl rfl rfl rfl ?_)
  | (refine I.bin ?_; first | refine WX.lss rfl rfl rfl ?_ | refine WX.eql rfl rfl rfl ?_ | refine WX.neq rfl rfl rfl ?_ | refine WX.leq rfl rfl rfl ?_ | refine WX.gtr rfl rfl rfl ?_ | refine WX.geq rfl rfl rfl ?_ | refine WX.add rfl rfl rfl (by omega) ?_ | refine WX.sub' rfl rfl rfl (by omega) ?_ | refine WX.eqPN rfl rfl rfl ?_ | refine WX.nePN rfl rfl rfl ?_ | refine WX.eqNN rfl rfl rfl ?_ | refine WX.neNN rfl rfl rfl ?_)
  | (refine I.un ?_; first | refine WX.notD rfl rfl ?_ | refine WX.not rfl rfl ?_)
  | (refine I.pk ?_; first | refine WX.pickT rfl rfl rfl ?_ | refine WX.pickF rfl rfl rfl ?_)
  | (refine I.bi ?_; first | refine WX.lenSl rfl (by assumption) rfl ?_ | refine WX.len rfl rfl ?_ | refine WX.lenS rfl rfl ?_ | refine WX.min rfl rfl rfl ?_ | refine WX.max rfl rfl rfl ?_)
  | (refine I.ix ?_; first | refine WX.idx rfl rfl (by assumption) (by assumption) rfl ?_ | refine WX.idxI rfl rfl (by assumption) (by omega) (by assumption) rfl ?_)
  | (refine I.sl ?_; refine WX.slTo rfl rfl (by assumption) (by omega) rfl ?_)
  | (refine I.st ?_; first | (refine WX.store rfl rfl rfl rfl ?_; try simp only [List.set_cons_zero, List.set_cons_succ, Nat.reduceAdd]) | (refine WX.storeG rfl rfl rfl rfl rfl rfl ?_; try simp only [setAt, List.set_cons_zero, List.set_cons_succ, Nat.reduceAdd]))
  | (refine I.bd ?_; refine WX.build rfl rfl rfl ?_; try simp only [setAt, Value.cells, List.set_cons_zero, List.set_cons_succ]) | (refine I.bx ?_; refine WX.box rfl rfl rfl (fun _ => ?_)) | (refine I.al ?_; refine WX.alloc rfl (fun _ => ?_)) | (refine I.ex ?_; refine WX.extract rfl rfl rfl ?_))
      refine W.quiet Try.mix (by kernel_rfl) ?_
      repeat' (first
  | refine W.seq ?_ | refine W.region ?_ | refine WX.nil ?_ | refine D.seq ?_ | refine W.block ?_ | refine D.blk ?_ | refine W.skip ?_ | refine W.exit ?_ | refine W.ret ?_
  | refine WM.nil ?_ | refine WM.un ?_ | refine WM.an ?_ | refine WM.backU ?_ | refine WM.back ?_
  | refine D.blkX ?_ | refine D.blkY rfl ?_ | refine D.roundX ?_ | refine D.roundR ?_ | refine D.blkR ?_
  | (refine I.gd ?_; first | refine WX.gy rfl rfl ?_ | refine WX.gn rfl rfl rfl rfl ?_ | refine WX.gnN rfl rfl rfl ?_ | refine WX.gT rfl rfl (by first | assumption | omega) ?_ | refine WX.gF rfl rfl (by first | assumption | omega) ?_ | refine WX.gS rfl rfl (fun _ => ?_) (fun _ => ?_))
  | (refine I.cond ?_; first | refine W.condT rfl ?_ | refine W.condF rfl ?_ | refine W.condP rfl (by first | assumption | omega) ?_ | refine W.condN rfl (by first | assumption | omega) ?_)
  | (refine I.mv ?_; refine WX.move rfl rfl ?_) | (refine I.as ?_; refine WX.assign rfl rfl ?_)
  | (refine I.nc ?_; first | refine WX.nilCheck rfl rfl ?_ | refine WX.nilE rfl (by assumption) (by assumption) rfl ?_)
  | (refine I.fa ?_; first | refine WX.fieldAddr rfl rfl ?_ | refine WX.fieldE rfl (by assumption) (by assumption) rfl ?_)
  | (refine I.ld ?_; first | refine WX.load rfl rfl rfl ?_ | refine WX.loadE rfl (by assumption) (by assumption) rfl rfl rfl ?_ | refine WX.loadA rfl rfl rfl rfl ?_)
  | (refine I.bin ?_; first | refine WX.lss rfl rfl rfl ?_ | refine WX.eql rfl rfl rfl ?_ | refine WX.neq rfl rfl rfl ?_ | refine WX.leq rfl rfl rfl ?_ | refine WX.gtr rfl rfl rfl ?_ | refine WX.geq rfl rfl rfl ?_ | refine WX.add rfl rfl rfl (by omega) ?_ | refine WX.sub' rfl rfl rfl (by omega) ?_ | refine WX.eqPN rfl rfl rfl ?_ | refine WX.nePN rfl rfl rfl ?_ | refine WX.eqNN rfl rfl rfl ?_ | refine WX.neNN rfl rfl rfl ?_)
  | (refine I.un ?_; first | refine WX.notD rfl rfl ?_ | refine WX.not rfl rfl ?_)
  | (refine I.pk ?_; first | refine WX.pickT rfl rfl rfl ?_ | refine WX.pickF rfl rfl rfl ?_)
  | (refine I.bi ?_; first | refine WX.lenSl rfl (by assumption) rfl ?_ | refine WX.len rfl rfl ?_ | refine WX.lenS rfl rfl ?_ | refine WX.min rfl rfl rfl ?_ | refine WX.max rfl rfl rfl ?_)
  | (refine I.ix ?_; first | refine WX.idx rfl rfl (by assumption) (by assumption) rfl ?_ | refine WX.idxI rfl rfl (by assumption) (by omega) (by assumption) rfl ?_)
  | (refine I.sl ?_; refine WX.slTo rfl rfl (by assumption) (by omega) rfl ?_)
  | (refine I.st ?_; first | (refine WX.store rfl rfl rfl rfl ?_; try simp only [List.set_cons_zero, List.set_cons_succ, Nat.reduceAdd]) | (refine WX.storeG rfl rfl rfl rfl rfl rfl ?_; try simp only [setAt, List.set_cons_zero, List.set_cons_succ, Nat.reduceAdd]))
  | (refine I.bd ?_; refine WX.build rfl rfl rfl ?_; try simp only [setAt, Value.cells, List.set_cons_zero, List.set_cons_succ]) | (refine I.bx ?_; refine WX.box rfl rfl rfl (fun _ => ?_)) | (refine I.al ?_; refine WX.alloc rfl (fun _ => ?_)) | (refine I.ex ?_; refine WX.extract rfl rfl rfl ?_))
      by_cases hxy : x = y
      · repeat' (first
  | refine W.seq ?_ | refine W.region ?_ | refine WX.nil ?_ | refine D.seq ?_ | refine W.block ?_ | refine D.blk ?_ | refine W.skip ?_ | refine W.exit ?_ | refine W.ret ?_
  | refine WM.nil ?_ | refine WM.un ?_ | refine WM.an ?_ | refine WM.backU ?_ | refine WM.back ?_
  | refine D.blkX ?_ | refine D.blkY rfl ?_ | refine D.roundX ?_ | refine D.roundR ?_ | refine D.blkR ?_
  | (refine I.gd ?_; first | refine WX.gy rfl rfl ?_ | refine WX.gn rfl rfl rfl rfl ?_ | refine WX.gnN rfl rfl rfl ?_ | refine WX.gT rfl rfl (by first | assumption | omega) ?_ | refine WX.gF rfl rfl (by first | assumption | omega) ?_ | refine WX.gS rfl rfl (fun _ => ?_) (fun _ => ?_))
  | (refine I.cond ?_; first | refine W.condT rfl ?_ | refine W.condF rfl ?_ | refine W.condP rfl (by first | assumption | omega) ?_ | refine W.condN rfl (by first | assumption | omega) ?_)
  | (refine I.mv ?_; refine WX.move rfl rfl ?_) | (refine I.as ?_; refine WX.assign rfl rfl ?_)
  | (refine I.nc ?_; first | refine WX.nilCheck rfl rfl ?_ | refine WX.nilE rfl (by assumption) (by assumption) rfl ?_)
  | (refine I.fa ?_; first | refine WX.fieldAddr rfl rfl ?_ | refine WX.fieldE rfl (by assumption) (by assumption) rfl ?_)
  | (refine I.ld ?_; first | refine WX.load rfl rfl rfl ?_ | refine WX.loadE rfl (by assumption) (by assumption) rfl rfl rfl ?_ | refine WX.loadA rfl rfl rfl rfl ?_)
  | (refine I.bin ?_; first | refine WX.lss rfl rfl rfl ?_ | refine WX.eql rfl rfl rfl ?_ | refine WX.neq rfl rfl rfl ?_ | refine WX.leq rfl rfl rfl ?_ | refine WX.gtr rfl rfl rfl ?_ | refine WX.geq rfl rfl rfl ?_ | refine WX.add rfl rfl rfl (by omega) ?_ | refine WX.sub' rfl rfl rfl (by omega) ?_ | refine WX.eqPN rfl rfl rfl ?_ | refine WX.nePN rfl rfl rfl ?_ | refine WX.eqNN rfl rfl rfl ?_ | refine WX.neNN rfl rfl rfl ?_)
  | (refine I.un ?_; first | refine WX.notD rfl rfl ?_ | refine WX.not rfl rfl ?_)
  | (refine I.pk ?_; first | refine WX.pickT rfl rfl rfl ?_ | refine WX.pickF rfl rfl rfl ?_)
  | (refine I.bi ?_; first | refine WX.lenSl rfl (by assumption) rfl ?_ | refine WX.len rfl rfl ?_ | refine WX.lenS rfl rfl ?_ | refine WX.min rfl rfl rfl ?_ | refine WX.max rfl rfl rfl ?_)
  | (refine I.ix ?_; first | refine WX.idx rfl rfl (by assumption) (by assumption) rfl ?_ | refine WX.idxI rfl rfl (by assumption) (by omega) (by assumption) rfl ?_)
  | (refine I.sl ?_; refine WX.slTo rfl rfl (by assumption) (by omega) rfl ?_)
  | (refine I.st ?_; first | (refine WX.store rfl rfl rfl rfl ?_; try simp only [List.set_cons_zero, List.set_cons_succ, Nat.reduceAdd]) | (refine WX.storeG rfl rfl rfl rfl rfl rfl ?_; try simp only [setAt, List.set_cons_zero, List.set_cons_succ, Nat.reduceAdd]))
  | (refine I.bd ?_; refine WX.build rfl rfl rfl ?_; try simp only [setAt, Value.cells, List.set_cons_zero, List.set_cons_succ]) | (refine I.bx ?_; refine WX.box rfl rfl rfl (fun _ => ?_)) | (refine I.al ?_; refine WX.alloc rfl (fun _ => ?_)) | (refine I.ex ?_; refine WX.extract rfl rfl rfl ?_))
        exact D.round (k + 1) ⟨by omega, by rw [List.take_add_one, List.take_add_one, hkx, hky, he, hxy]⟩ (by omega) (by repeat (first | exact Fsub.nil | refine Fsub.cons rfl ?_)) (Hsub.of_picks inferInstance)
      · repeat' (first
  | refine W.seq ?_ | refine W.region ?_ | refine WX.nil ?_ | refine D.seq ?_ | refine W.block ?_ | refine D.blk ?_ | refine W.skip ?_ | refine W.exit ?_ | refine W.ret ?_
  | refine WM.nil ?_ | refine WM.un ?_ | refine WM.an ?_ | refine WM.backU ?_ | refine WM.back ?_
  | refine D.blkX ?_ | refine D.blkY rfl ?_ | refine D.roundX ?_ | refine D.roundR ?_ | refine D.blkR ?_
  | (refine I.gd ?_; first | refine WX.gy rfl rfl ?_ | refine WX.gn rfl rfl rfl rfl ?_ | refine WX.gnN rfl rfl rfl ?_ | refine WX.gT rfl rfl (by first | assumption | omega) ?_ | refine WX.gF rfl rfl (by first | assumption | omega) ?_ | refine WX.gS rfl rfl (fun _ => ?_) (fun _ => ?_))
  | (refine I.cond ?_; first | refine W.condT rfl ?_ | refine W.condF rfl ?_ | refine W.condP rfl (by first | assumption | omega) ?_ | refine W.condN rfl (by first | assumption | omega) ?_)
  | (refine I.mv ?_; refine WX.move rfl rfl ?_) | (refine I.as ?_; refine WX.assign rfl rfl ?_)
  | (refine I.nc ?_; first | refine WX.nilCheck rfl rfl ?_ | refine WX.nilE rfl (by assumption) (by assumption) rfl ?_)
  | (refine I.fa ?_; first | refine WX.fieldAddr rfl rfl ?_ | refine WX.fieldE rfl (by assumption) (by assumption) rfl ?_)
  | (refine I.ld ?_; first | refine WX.load rfl rfl rfl ?_ | refine WX.loadE rfl (by assumption) (by assumption) rfl rfl rfl ?_ | refine WX.loadA rfl rfl rfl rfl ?_)
  | (refine I.bin ?_; first | refine WX.lss rfl rfl rfl ?_ | refine WX.eql rfl rfl rfl ?_ | refine WX.neq rfl rfl rfl ?_ | refine WX.leq rfl rfl rfl ?_ | refine WX.gtr rfl rfl rfl ?_ | refine WX.geq rfl rfl rfl ?_ | refine WX.add rfl rfl rfl (by omega) ?_ | refine WX.sub' rfl rfl rfl (by omega) ?_ | refine WX.eqPN rfl rfl rfl ?_ | refine WX.nePN rfl rfl rfl ?_ | refine WX.eqNN rfl rfl rfl ?_ | refine WX.neNN rfl rfl rfl ?_)
  | (refine I.un ?_; first | refine WX.notD rfl rfl ?_ | refine WX.not rfl rfl ?_)
  | (refine I.pk ?_; first | refine WX.pickT rfl rfl rfl ?_ | refine WX.pickF rfl rfl rfl ?_)
  | (refine I.bi ?_; first | refine WX.lenSl rfl (by assumption) rfl ?_ | refine WX.len rfl rfl ?_ | refine WX.lenS rfl rfl ?_ | refine WX.min rfl rfl rfl ?_ | refine WX.max rfl rfl rfl ?_)
  | (refine I.ix ?_; first | refine WX.idx rfl rfl (by assumption) (by assumption) rfl ?_ | refine WX.idxI rfl rfl (by assumption) (by omega) (by assumption) rfl ?_)
  | (refine I.sl ?_; refine WX.slTo rfl rfl (by assumption) (by omega) rfl ?_)
  | (refine I.st ?_; first | (refine WX.store rfl rfl rfl rfl ?_; try simp only [List.set_cons_zero, List.set_cons_succ, Nat.reduceAdd]) | (refine WX.storeG rfl rfl rfl rfl rfl rfl ?_; try simp only [setAt, List.set_cons_zero, List.set_cons_succ, Nat.reduceAdd]))
  | (refine I.bd ?_; refine WX.build rfl rfl rfl ?_; try simp only [setAt, Value.cells, List.set_cons_zero, List.set_cons_succ]) | (refine I.bx ?_; refine WX.box rfl rfl rfl (fun _ => ?_)) | (refine I.al ?_; refine WX.alloc rfl (fun _ => ?_)) | (refine I.ex ?_; refine WX.extract rfl rfl rfl ?_))
        refine D.fin1 [h] _ rfl rfl ⟨by rw [decide_eq_false]; rintro rfl; rw [hkx] at hky; exact hxy (Option.some.inj hky), rfl⟩
    · repeat' (first
  | refine W.seq ?_ | refine W.region ?_ | refine WX.nil ?_ | refine D.seq ?_ | refine W.block ?_ | refine D.blk ?_ | refine W.skip ?_ | refine W.exit ?_ | refine W.ret ?_
  | refine WM.nil ?_ | refine WM.un ?_ | refine WM.an ?_ | refine WM.backU ?_ | refine WM.back ?_
  | refine D.blkX ?_ | refine D.blkY rfl ?_ | refine D.roundX ?_ | refine D.roundR ?_ | refine D.blkR ?_
  | (refine I.gd ?_; first | refine WX.gy rfl rfl ?_ | refine WX.gn rfl rfl rfl rfl ?_ | refine WX.gnN rfl rfl rfl ?_ | refine WX.gT rfl rfl (by first | assumption | omega) ?_ | refine WX.gF rfl rfl (by first | assumption | omega) ?_ | refine WX.gS rfl rfl (fun _ => ?_) (fun _ => ?_))
  | (refine I.cond ?_; first | refine W.condT rfl ?_ | refine W.condF rfl ?_ | refine W.condP rfl (by first | assumption | omega) ?_ | refine W.condN rfl (by first | assumption | omega) ?_)
  | (refine I.mv ?_; refine WX.move rfl rfl ?_) | (refine I.as ?_; refine WX.assign rfl rfl ?_)
  | (refine I.nc ?_; first | refine WX.nilCheck rfl rfl ?_ | refine WX.nilE rfl (by assumption) (by assumption) rfl ?_)
  | (refine I.fa ?_; first | refine WX.fieldAddr rfl rfl ?_ | refine WX.fieldE rfl (by assumption) (by assumption) rfl ?_)
  | (refine I.ld ?_; first | refine WX.load rfl rfl rfl ?_ | refine WX.loadE rfl (by assumption) (by assumption) rfl rfl rfl ?_ | refine WX.loadA rfl rfl rfl rfl ?_)
  | (refine I.bin ?_; first | refine WX.lss rfl rfl rfl ?_ | refine WX.eql rfl rfl rfl ?_ | refine WX.neq rfl rfl rfl ?_ | refine WX.leq rfl rfl rfl ?_ | refine WX.gtr rfl rfl rfl ?_ | refine WX.geq rfl rfl rfl ?_ | refine WX.add rfl rfl rfl (by omega) ?_ | refine WX.sub' rfl rfl rfl (by omega) ?_ | refine WX.eqPN rfl rfl rfl ?_ | refine WX.nePN rfl rfl rfl ?_ | refine WX.eqNN rfl rfl rfl ?_ | refine WX.neNN rfl rfl rfl ?_)
  | (refine I.un ?_; first | refine WX.notD rfl rfl ?_ | refine WX.not rfl rfl ?_)
  | (refine I.pk ?_; first | refine WX.pickT rfl rfl rfl ?_ | refine WX.pickF rfl rfl rfl ?_)
  | (refine I.bi ?_; first | refine WX.lenSl rfl (by assumption) rfl ?_ | refine WX.len rfl rfl ?_ | refine WX.lenS rfl rfl ?_ | refine WX.min rfl rfl rfl ?_ | refine WX.max rfl rfl rfl ?_)
  | (refine I.ix ?_; first | refine WX.idx rfl rfl (by assumption) (by assumption) rfl ?_ | refine WX.idxI rfl rfl (by assumption) (by omega) (by assumption) rfl ?_)
  | (refine I.sl ?_; refine WX.slTo rfl rfl (by assumption) (by omega) rfl ?_)
  | (refine I.st ?_; first | (refine WX.store rfl rfl rfl rfl ?_; try simp only [List.set_cons_zero, List.set_cons_succ, Nat.reduceAdd]) | (refine WX.storeG rfl rfl rfl rfl rfl rfl ?_; try simp only [setAt, List.set_cons_zero, List.set_cons_succ, Nat.reduceAdd]))
  | (refine I.bd ?_; refine WX.build rfl rfl rfl ?_; try simp only [setAt, Value.cells, List.set_cons_zero, List.set_cons_succ]) | (refine I.bx ?_; refine WX.box rfl rfl rfl (fun _ => ?_)) | (refine I.al ?_; refine WX.alloc rfl (fun _ => ?_)) | (refine I.ex ?_; refine WX.extract rfl rfl rfl ?_))
      refine D.fin1 [h] _ rfl rfl ⟨?_, rfl⟩
      obtain rfl : k = xs.length := by omega
      rw [List.take_length, hl, List.take_length] at he
      rw [decide_eq_true he]
  · repeat' (first
  | refine W.seq ?_ | refine W.region ?_ | refine WX.nil ?_ | refine D.seq ?_ | refine W.block ?_ | refine D.blk ?_ | refine W.skip ?_ | refine W.exit ?_ | refine W.ret ?_
  | refine WM.nil ?_ | refine WM.un ?_ | refine WM.an ?_ | refine WM.backU ?_ | refine WM.back ?_
  | refine D.blkX ?_ | refine D.blkY rfl ?_ | refine D.roundX ?_ | refine D.roundR ?_ | refine D.blkR ?_
  | (refine I.gd ?_; first | refine WX.gy rfl rfl ?_ | refine WX.gn rfl rfl rfl rfl ?_ | refine WX.gnN rfl rfl rfl ?_ | refine WX.gT rfl rfl (by first | assumption | omega) ?_ | refine WX.gF rfl rfl (by first | assumption | omega) ?_ | refine WX.gS rfl rfl (fun _ => ?_) (fun _ => ?_))
  | (refine I.cond ?_; first | refine W.condT rfl ?_ | refine W.condF rfl ?_ | refine W.condP rfl (by first | assumption | omega) ?_ | refine W.condN rfl (by first | assumption | omega) ?_)
  | (refine I.mv ?_; refine WX.move rfl rfl ?_) | (refine I.as ?_; refine WX.assign rfl rfl ?_)
  | (refine I.nc ?_; first | refine WX.nilCheck rfl rfl ?_ | refine WX.nilE rfl (by assumption) (by assumption) rfl ?_)
  | (refine I.fa ?_; first | refine WX.fieldAddr rfl rfl ?_ | refine WX.fieldE rfl (by assumption) (by assumption) rfl ?_)
  | (refine I.ld ?_; first | refine WX.load rfl rfl rfl ?_ | refine WX.loadE rfl (by assumption) (by assumption) rfl rfl rfl ?_ | refine WX.loadA rfl rfl rfl rfl ?_)
  | (refine I.bin ?_; first | refine WX.lss rfl rfl rfl ?_ | refine WX.eql rfl rfl rfl ?_ | refine WX.neq rfl rfl rfl ?_ | refine WX.leq rfl rfl rfl ?_ | refine WX.gtr rfl rfl rfl ?_ | refine WX.geq rfl rfl rfl ?_ | refine WX.add rfl rfl rfl (by omega) ?_ | refine WX.sub' rfl rfl rfl (by omega) ?_ | refine WX.eqPN rfl rfl rfl ?_ | refine WX.nePN rfl rfl rfl ?_ | refine WX.eqNN rfl rfl rfl ?_ | refine WX.neNN rfl rfl rfl ?_)
  | (refine I.un ?_; first | refine WX.notD rfl rfl ?_ | refine WX.not rfl rfl ?_)
  | (refine I.pk ?_; first | refine WX.pickT rfl rfl rfl ?_ | refine WX.pickF rfl rfl rfl ?_)
  | (refine I.bi ?_; first | refine WX.lenSl rfl (by assumption) rfl ?_ | refine WX.len rfl rfl ?_ | refine WX.lenS rfl rfl ?_ | refine WX.min rfl rfl rfl ?_ | refine WX.max rfl rfl rfl ?_)
  | (refine I.ix ?_; first | refine WX.idx rfl rfl (by assumption) (by assumption) rfl ?_ | refine WX.idxI rfl rfl (by assumption) (by omega) (by assumption) rfl ?_)
  | (refine I.sl ?_; refine WX.slTo rfl rfl (by assumption) (by omega) rfl ?_)
  | (refine I.st ?_; first | (refine WX.store rfl rfl rfl rfl ?_; try simp only [List.set_cons_zero, List.set_cons_succ, Nat.reduceAdd]) | (refine WX.storeG rfl rfl rfl rfl rfl rfl ?_; try simp only [setAt, List.set_cons_zero, List.set_cons_succ, Nat.reduceAdd]))
  | (refine I.bd ?_; refine WX.build rfl rfl rfl ?_; try simp only [setAt, Value.cells, List.set_cons_zero, List.set_cons_succ]) | (refine I.bx ?_; refine WX.box rfl rfl rfl (fun _ => ?_)) | (refine I.al ?_; refine WX.alloc rfl (fun _ => ?_)) | (refine I.ex ?_; refine WX.extract rfl rfl rfl ?_))
    exact D.fin1 [h] _ rfl rfl ⟨by rw [decide_eq_false]; rintro rfl; exact hl rfl, rfl⟩
end Go.Proofs.Ytllopddalmdbjaa
