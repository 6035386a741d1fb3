/-
  ship: the write that goes next, the least that one has.
-/
import Derived.Test.YtllopddalmdbjaaShA
set_option linter.unusedVariables false
set_option linter.unusedSimpArgs false
namespace Go.Proofs.Ytllopddalmdbjaa
open Go Go.Sl

def isNext (dc c : Int) (e : Ent) : Bool := decide (e.dc = dc ∧ e.seq - 1 = c)
def nextL (dc x : Int) (r : Int → Int) (es : List Ent) : Option Ent := if isOther dc x then es.find? (isNext dc (r x)) else none
def entRes : Option Ent → Value
  | some e => .tuple #[.agg (Enc.enc e).toArray, .bool true]
  | none => .tuple #[.agg (Enc.enc ({ dc := 0, seq := 0 } : Ent)).toArray, .bool false]

theorem enc_ent (e : Ent) : Enc.enc e = [.int .i64 e.dc, .int .i64 e.rg, .int .i64 e.seq, .int .i64 e.s1, .int .i64 e.s2, .int .i64 e.s3, .string e.key, .string e.val, .bool e.dead,
  .int .i64 e.d0, .int .i64 e.d1, .int .i64 e.d2, .int .i64 e.d3, .int .i64 e.d4, .int .i64 e.d5, .int .i64 e.d6, .int .i64 e.d7, .int .i64 e.d8, .int .i64 e.client, .int .i64 e.op] := rfl

theorem find_step {p : Ent → Bool} {es : List Ent} {k : Nat} {e : Ent} (h : es[k]? = some e) : (es.drop k).find? p = if p e then some e else (es.drop (k + 1)).find? p := by
  obtain ⟨hlt, rfl⟩ := List.getElem?_eq_some_iff.1 h
  rw [List.drop_eq_getElem_cons hlt, List.find?_cons]
  cases p es[k] <;> rfl

theorem next_ct {b : Nat} {dc x : Int} {r : Int → Int} {es : List Ent} {v : Value} {h : Hp} (hs : Rs es v h) (hr : -9223372036854775808 ≤ r x ∧ r x ≤ 9223372036854775807) (hsq : ∀ e ∈ es, e.seq ≤ 9223372036854775807) (hl : es.length ≤ 4611686018427387904) :
    Ct Try.prog 27 [.pointer (some ⟨b, 0, none⟩), .int .i64 x, v] [SB b dc r, h] (fun u H' => u = entRes (nextL dc x r es) ∧ H' = [SB b dc r, h]) := by
  refine Ct.mk' Try.func27 rfl rfl rfl (fun g R => ?_)
  try simp only [List.cons_append]
  simp only [List.nil_append]
  repeat' (first
  | refine W.seq ?_ | refine W.region ?_ | refine WX.nil ?_ | refine D.seq ?_ | refine W.block ?_ | refine D.blk ?_ | refine W.skip ?_ | refine W.exit ?_ | refine W.ret ?_
  | refine WM.nil ?_ | refine WM.un ?_ | refine WM.an ?_ | refine WM.backU ?_ | refine WM.back ?_
  | refine D.blkX ?_ | refine D.blkY rfl ?_ | refine D.roundX ?_ | refine D.roundR ?_ | refine D.blkR ?_
  | (refine I.gd ?_; first | refine WX.gy rfl rfl ?_ | refine WX.gn rfl rfl rfl rfl ?_ | refine WX.gnN rfl rfl rfl ?_ | refine WX.gu rfl rfl rfl ?_ | refine WX.guN rfl rfl ?_ | refine WX.gT rfl rfl (by first | assumption | omega) ?_ | refine WX.gF rfl rfl (by first | assumption | omega) ?_ | refine WX.gS rfl rfl (fun _ => ?_) (fun _ => ?_))
  | (refine I.cond ?_; first | refine W.condT rfl ?_ | refine W.condF rfl ?_ | refine W.condP rfl (by first | assumption | omega) ?_ | refine W.condN rfl (by first | assumption | omega) ?_)
  | (refine I.mv ?_; refine WX.move rfl rfl ?_) | (refine I.as ?_; refine WX.assign rfl rfl ?_)
  | (refine I.nc ?_; first | refine WX.nilCheck rfl rfl ?_ | refine WX.nilE rfl (by assumption) (by assumption) rfl ?_)
  | (refine I.fa ?_; first | refine WX.fieldAddr rfl rfl ?_ | refine WX.fieldE rfl (by assumption) (by assumption) rfl ?_)
  | (refine I.ld ?_; first | refine WX.load rfl rfl rfl ?_ | refine WX.loadE rfl (by assumption) (by assumption) rfl rfl rfl ?_ | refine WX.loadA rfl rfl rfl rfl ?_ | refine WX.loadEW rfl (by assumption) (by assumption) rfl rfl ?_)
  | (refine I.bin ?_; first | refine WX.lss rfl rfl rfl ?_ | refine WX.eql rfl rfl rfl ?_ | refine WX.neq rfl rfl rfl ?_ | refine WX.leq rfl rfl rfl ?_ | refine WX.gtr rfl rfl rfl ?_ | refine WX.geq rfl rfl rfl ?_ | refine WX.add rfl rfl rfl (by omega) ?_ | refine WX.sub' rfl rfl rfl (by omega) ?_ | refine WX.eqPN rfl rfl rfl ?_ | refine WX.nePN rfl rfl rfl ?_ | refine WX.eqNN rfl rfl rfl ?_ | refine WX.neNN rfl rfl rfl ?_)
  | (refine I.un ?_; first | refine WX.notD rfl rfl ?_ | refine WX.not rfl rfl ?_)
  | (refine I.pk ?_; first | refine WX.pickT rfl rfl rfl ?_ | refine WX.pickF rfl rfl rfl ?_)
  | (refine I.bi ?_; first | refine WX.lenSl rfl (by assumption) rfl ?_ | refine WX.len rfl rfl ?_ | refine WX.lenS rfl rfl ?_ | refine WX.min rfl rfl rfl ?_ | refine WX.max rfl rfl rfl ?_)
  | (refine I.ix ?_; first | refine WX.idx rfl rfl (by assumption) (by assumption) rfl ?_ | refine WX.idxI rfl rfl (by assumption) (by omega) (by assumption) rfl ?_ | refine WX.idxP rfl rfl (by omega) rfl ?_)
  | (refine I.sl ?_; refine WX.slTo rfl rfl (by assumption) (by omega) rfl ?_)
  | (refine I.st ?_; first | (refine WX.store rfl rfl rfl rfl ?_; try simp only [List.set_cons_zero, List.set_cons_succ, Nat.reduceAdd]) | (refine WX.storeG rfl rfl rfl rfl rfl rfl ?_; try simp only [setAt, List.set_cons_zero, List.set_cons_succ, Nat.reduceAdd]; try rw [setAt_whole (by rfl)]))
  | (refine I.bd ?_; refine WX.build rfl rfl rfl ?_; try simp only [setAt, Value.cells, List.set_cons_zero, List.set_cons_succ]) | (refine I.bx ?_; refine WX.box rfl rfl rfl (fun _ => ?_)) | (refine I.al ?_; refine WX.alloc rfl (fun _ => ?_)) | (refine I.ex ?_; refine WX.extract rfl rfl rfl ?_))
  refine WX.callQ rfl (other_ct (dc := dc) (r := r)) rfl ?_
  by_cases ho : isOther dc x
  · obtain ⟨h1, h2, h3⟩ := id ho
    rw [decide_eq_true ho]
    repeat' (first
  | refine W.seq ?_ | refine W.region ?_ | refine WX.nil ?_ | refine D.seq ?_ | refine W.block ?_ | refine D.blk ?_ | refine W.skip ?_ | refine W.exit ?_ | refine W.ret ?_
  | refine WM.nil ?_ | refine WM.un ?_ | refine WM.an ?_ | refine WM.backU ?_ | refine WM.back ?_
  | refine D.blkX ?_ | refine D.blkY rfl ?_ | refine D.roundX ?_ | refine D.roundR ?_ | refine D.blkR ?_
  | (refine I.gd ?_; first | refine WX.gy rfl rfl ?_ | refine WX.gn rfl rfl rfl rfl ?_ | refine WX.gnN rfl rfl rfl ?_ | refine WX.gu rfl rfl rfl ?_ | refine WX.guN rfl rfl ?_ | refine WX.gT rfl rfl (by first | assumption | omega) ?_ | refine WX.gF rfl rfl (by first | assumption | omega) ?_ | refine WX.gS rfl rfl (fun _ => ?_) (fun _ => ?_))
  | (refine I.cond ?_; first | refine W.condT rfl ?_ | refine W.condF rfl ?_ | refine W.condP rfl (by first | assumption | omega) ?_ | refine W.condN rfl (by first | assumption | omega) ?_)
  | (refine I.mv ?_; refine WX.move rfl rfl ?_) | (refine I.as ?_; refine WX.assign rfl rfl ?_)
  | (refine I.nc ?_; first | refine WX.nilCheck rfl rfl ?_ | refine WX.nilE rfl (by assumption) (by assumption) rfl ?_)
  | (refine I.fa ?_; first | refine WX.fieldAddr rfl rfl ?_ | refine WX.fieldE rfl (by assumption) (by assumption) rfl ?_)
  | (refine I.ld ?_; first | refine WX.load rfl rfl rfl ?_ | refine WX.loadE rfl (by assumption) (by assumption) rfl rfl rfl ?_ | refine WX.loadA rfl rfl rfl rfl ?_ | refine WX.loadEW rfl (by assumption) (by assumption) rfl rfl ?_)
  | (refine I.bin ?_; first | refine WX.lss rfl rfl rfl ?_ | refine WX.eql rfl rfl rfl ?_ | refine WX.neq rfl rfl rfl ?_ | refine WX.leq rfl rfl rfl ?_ | refine WX.gtr rfl rfl rfl ?_ | refine WX.geq rfl rfl rfl ?_ | refine WX.add rfl rfl rfl (by omega) ?_ | refine WX.sub' rfl rfl rfl (by omega) ?_ | refine WX.eqPN rfl rfl rfl ?_ | refine WX.nePN rfl rfl rfl ?_ | refine WX.eqNN rfl rfl rfl ?_ | refine WX.neNN rfl rfl rfl ?_)
  | (refine I.un ?_; first | refine WX.notD rfl rfl ?_ | refine WX.not rfl rfl ?_)
  | (refine I.pk ?_; first | refine WX.pickT rfl rfl rfl ?_ | refine WX.pickF rfl rfl rfl ?_)
  | (refine I.bi ?_; first | refine WX.lenSl rfl (by assumption) rfl ?_ | refine WX.len rfl rfl ?_ | refine WX.lenS rfl rfl ?_ | refine WX.min rfl rfl rfl ?_ | refine WX.max rfl rfl rfl ?_)
  | (refine I.ix ?_; first | refine WX.idx rfl rfl (by assumption) (by assumption) rfl ?_ | refine WX.idxI rfl rfl (by assumption) (by omega) (by assumption) rfl ?_ | refine WX.idxP rfl rfl (by omega) rfl ?_)
  | (refine I.sl ?_; refine WX.slTo rfl rfl (by assumption) (by omega) rfl ?_)
  | (refine I.st ?_; first | (refine WX.store rfl rfl rfl rfl ?_; try simp only [List.set_cons_zero, List.set_cons_succ, Nat.reduceAdd]) | (refine WX.storeG rfl rfl rfl rfl rfl rfl ?_; try simp only [setAt, List.set_cons_zero, List.set_cons_succ, Nat.reduceAdd]; try rw [setAt_whole (by rfl)]))
  | (refine I.bd ?_; refine WX.build rfl rfl rfl ?_; try simp only [setAt, Value.cells, List.set_cons_zero, List.set_cons_succ]) | (refine I.bx ?_; refine WX.box rfl rfl rfl (fun _ => ?_)) | (refine I.al ?_; refine WX.alloc rfl (fun _ => ?_)) | (refine I.ex ?_; refine WX.extract rfl rfl rfl ?_))
    rename_i b6
    refine W.loop (α := Nat) (fun k => k ≤ es.length ∧ nextL dc x r es = (es.drop k).find? (isNext dc (r x)))
      (fun k => [(0, .pointer (some ⟨b, 0, none⟩)), (1, .int .i64 x), (6, .pointer (some ⟨b6, 0, none⟩)), (7, .bool false), (13, v), (14, .int .i64 (es.length : Int)), (15, .int .i64 (k : Int))])
      (fun _ => [[(b6, .cells (List.toArray [Value.int .i64 0, .int .i64 0, .int .i64 0, .int .i64 0, .int .i64 0, .int .i64 0, .string ByteArray.empty, .string ByteArray.empty, .bool false, .int .i64 0, .int .i64 0, .int .i64 0, .int .i64 0, .int .i64 0, .int .i64 0, .int .i64 0, .int .i64 0, .int .i64 0, .int .i64 0, .int .i64 0]) 51 (0, 0))], SB b dc r, h, R]) (fun k => es.length - k) 0 ⟨Nat.zero_le _, by simp [nextL, ho]⟩ (by repeat (first | exact Fsub.nil | refine Fsub.cons rfl ?_)) (Hsub.of_picks inferInstance) ?_
    rintro k ⟨hk, hn⟩
    by_cases hlt : k < es.length
    · obtain ⟨e, he⟩ : ∃ e, es[k]? = some e := ⟨_, List.getElem?_eq_getElem hlt⟩
      rw [find_step he] at hn
      have hq := hsq e (List.mem_of_getElem? he)
      repeat' (first
  | refine W.seq ?_ | refine W.region ?_ | refine WX.nil ?_ | refine D.seq ?_ | refine W.block ?_ | refine D.blk ?_ | refine W.skip ?_ | refine W.exit ?_ | refine W.ret ?_
  | refine WM.nil ?_ | refine WM.un ?_ | refine WM.an ?_ | refine WM.backU ?_ | refine WM.back ?_
  | refine D.blkX ?_ | refine D.blkY rfl ?_ | refine D.roundX ?_ | refine D.roundR ?_ | refine D.blkR ?_
  | (refine I.gd ?_; first | refine WX.gy rfl rfl ?_ | refine WX.gn rfl rfl rfl rfl ?_ | refine WX.gnN rfl rfl rfl ?_ | refine WX.gu rfl rfl rfl ?_ | refine WX.guN rfl rfl ?_ | refine WX.gT rfl rfl (by first | assumption | omega) ?_ | refine WX.gF rfl rfl (by first | assumption | omega) ?_ | refine WX.gS rfl rfl (fun _ => ?_) (fun _ => ?_))
  | (refine I.cond ?_; first | refine W.condT rfl ?_ | refine W.condF rfl ?_ | refine W.condP rfl (by first | assumption | omega) ?_ | refine W.condN rfl (by first | assumption | omega) ?_)
  | (refine I.mv ?_; refine WX.move rfl rfl ?_) | (refine I.as ?_; refine WX.assign rfl rfl ?_)
  | (refine I.nc ?_; first | refine WX.nilCheck rfl rfl ?_ | refine WX.nilE rfl (by assumption) (by assumption) rfl ?_)
  | (refine I.fa ?_; first | refine WX.fieldAddr rfl rfl ?_ | refine WX.fieldE rfl (by assumption) (by assumption) rfl ?_)
  | (refine I.ld ?_; first | refine WX.load rfl rfl rfl ?_ | refine WX.loadE rfl (by assumption) (by assumption) rfl rfl rfl ?_ | refine WX.loadA rfl rfl rfl rfl ?_ | refine WX.loadEW rfl (by assumption) (by assumption) rfl rfl ?_)
  | (refine I.bin ?_; first | refine WX.lss rfl rfl rfl ?_ | refine WX.eql rfl rfl rfl ?_ | refine WX.neq rfl rfl rfl ?_ | refine WX.leq rfl rfl rfl ?_ | refine WX.gtr rfl rfl rfl ?_ | refine WX.geq rfl rfl rfl ?_ | refine WX.add rfl rfl rfl (by omega) ?_ | refine WX.sub' rfl rfl rfl (by omega) ?_ | refine WX.eqPN rfl rfl rfl ?_ | refine WX.nePN rfl rfl rfl ?_ | refine WX.eqNN rfl rfl rfl ?_ | refine WX.neNN rfl rfl rfl ?_)
  | (refine I.un ?_; first | refine WX.notD rfl rfl ?_ | refine WX.not rfl rfl ?_)
  | (refine I.pk ?_; first | refine WX.pickT rfl rfl rfl ?_ | refine WX.pickF rfl rfl rfl ?_)
  | (refine I.bi ?_; first | refine WX.lenSl rfl (by assumption) rfl ?_ | refine WX.len rfl rfl ?_ | refine WX.lenS rfl rfl ?_ | refine WX.min rfl rfl rfl ?_ | refine WX.max rfl rfl rfl ?_)
  | (refine I.ix ?_; first | refine WX.idx rfl rfl (by assumption) (by assumption) rfl ?_ | refine WX.idxI rfl rfl (by assumption) (by omega) (by assumption) rfl ?_ | refine WX.idxP rfl rfl (by omega) rfl ?_)
  | (refine I.sl ?_; refine WX.slTo rfl rfl (by assumption) (by omega) rfl ?_)
  | (refine I.st ?_; first | (refine WX.store rfl rfl rfl rfl ?_; try simp only [List.set_cons_zero, List.set_cons_succ, Nat.reduceAdd]) | (refine WX.storeG rfl rfl rfl rfl rfl rfl ?_; try simp only [setAt, List.set_cons_zero, List.set_cons_succ, Nat.reduceAdd]; try rw [setAt_whole (by rfl)]))
  | (refine I.bd ?_; refine WX.build rfl rfl rfl ?_; try simp only [setAt, Value.cells, List.set_cons_zero, List.set_cons_succ]) | (refine I.bx ?_; refine WX.box rfl rfl rfl (fun _ => ?_)) | (refine I.al ?_; refine WX.alloc rfl (fun _ => ?_)) | (refine I.ex ?_; refine WX.extract rfl rfl rfl ?_))
      try rw [setAt_whole (by rfl)]
      rename_i b9
      by_cases c1 : e.dc = dc
      · by_cases c2 : r x < e.seq
        · by_cases c3 : e.seq - 1 = r x
          · refine W.quiet Try.mix (by kernel_rfl) ?_
            repeat' (first
  | refine W.seq ?_ | refine W.region ?_ | refine WX.nil ?_ | refine D.seq ?_ | refine W.block ?_ | refine D.blk ?_ | refine W.skip ?_ | refine W.exit ?_ | refine W.ret ?_
  | refine WM.nil ?_ | refine WM.un ?_ | refine WM.an ?_ | refine WM.backU ?_ | refine WM.back ?_
  | refine D.blkX ?_ | refine D.blkY rfl ?_ | refine D.roundX ?_ | refine D.roundR ?_ | refine D.blkR ?_
  | (refine I.gd ?_; first | refine WX.gy rfl rfl ?_ | refine WX.gn rfl rfl rfl rfl ?_ | refine WX.gnN rfl rfl rfl ?_ | refine WX.gu rfl rfl rfl ?_ | refine WX.guN rfl rfl ?_ | refine WX.gT rfl rfl (by first | assumption | omega) ?_ | refine WX.gF rfl rfl (by first | assumption | omega) ?_ | refine WX.gS rfl rfl (fun _ => ?_) (fun _ => ?_))
  | (refine I.cond ?_; first | refine W.condT rfl ?_ | refine W.condF rfl ?_ | refine W.condP rfl (by first | assumption | omega) ?_ | refine W.condN rfl (by first | assumption | omega) ?_)
  | (refine I.mv ?_; refine WX.move rfl rfl ?_) | (refine I.as ?_; refine WX.assign rfl rfl ?_)
  | (refine I.nc ?_; first | refine WX.nilCheck rfl rfl ?_ | refine WX.nilE rfl (by assumption) (by assumption) rfl ?_)
  | (refine I.fa ?_; first | refine WX.fieldAddr rfl rfl ?_ | refine WX.fieldE rfl (by assumption) (by assumption) rfl ?_)
  | (refine I.ld ?_; first | refine WX.load rfl rfl rfl ?_ | refine WX.loadE rfl (by assumption) (by assumption) rfl rfl rfl ?_ | refine WX.loadA rfl rfl rfl rfl ?_ | refine WX.loadEW rfl (by assumption) (by assumption) rfl rfl ?_)
  | (refine I.bin ?_; first | refine WX.lss rfl rfl rfl ?_ | refine WX.eql rfl rfl rfl ?_ | refine WX.neq rfl rfl rfl ?_ | refine WX.leq rfl rfl rfl ?_ | refine WX.gtr rfl rfl rfl ?_ | refine WX.geq rfl rfl rfl ?_ | refine WX.add rfl rfl rfl (by omega) ?_ | refine WX.sub' rfl rfl rfl (by omega) ?_ | refine WX.eqPN rfl rfl rfl ?_ | refine WX.nePN rfl rfl rfl ?_ | refine WX.eqNN rfl rfl rfl ?_ | refine WX.neNN rfl rfl rfl ?_)
  | (refine I.un ?_; first | refine WX.notD rfl rfl ?_ | refine WX.not rfl rfl ?_)
  | (refine I.pk ?_; first | refine WX.pickT rfl rfl rfl ?_ | refine WX.pickF rfl rfl rfl ?_)
  | (refine I.bi ?_; first | refine WX.lenSl rfl (by assumption) rfl ?_ | refine WX.len rfl rfl ?_ | refine WX.lenS rfl rfl ?_ | refine WX.min rfl rfl rfl ?_ | refine WX.max rfl rfl rfl ?_)
  | (refine I.ix ?_; first | refine WX.idx rfl rfl (by assumption) (by assumption) rfl ?_ | refine WX.idxI rfl rfl (by assumption) (by omega) (by assumption) rfl ?_ | refine WX.idxP rfl rfl (by omega) rfl ?_)
  | (refine I.sl ?_; refine WX.slTo rfl rfl (by assumption) (by omega) rfl ?_)
  | (refine I.st ?_; first | (refine WX.store rfl rfl rfl rfl ?_; try simp only [List.set_cons_zero, List.set_cons_succ, Nat.reduceAdd]) | (refine WX.storeG rfl rfl rfl rfl rfl rfl ?_; try simp only [setAt, List.set_cons_zero, List.set_cons_succ, Nat.reduceAdd]; try rw [setAt_whole (by rfl)]))
  | (refine I.bd ?_; refine WX.build rfl rfl rfl ?_; try simp only [setAt, Value.cells, List.set_cons_zero, List.set_cons_succ]) | (refine I.bx ?_; refine WX.box rfl rfl rfl (fun _ => ?_)) | (refine I.al ?_; refine WX.alloc rfl (fun _ => ?_)) | (refine I.ex ?_; refine WX.extract rfl rfl rfl ?_) | (refine I.ld ?_; refine WX.load rfl (col_get h1 h2) rfl ?_))
            rw [show List.take 20 (List.drop 0 (Enc.enc e)) = Enc.enc e from rfl]; try rw [setAt_whole (by rfl)]
            exact D.finCT [SB b dc r, h] _ rfl rfl rfl rfl ⟨by rw [hn, if_pos (by simp [isNext, c1, c3])]; rfl, rfl⟩
          · refine W.quiet Try.mix (by kernel_rfl) ?_
            repeat' (first
  | refine W.seq ?_ | refine W.region ?_ | refine WX.nil ?_ | refine D.seq ?_ | refine W.block ?_ | refine D.blk ?_ | refine W.skip ?_ | refine W.exit ?_ | refine W.ret ?_
  | refine WM.nil ?_ | refine WM.un ?_ | refine WM.an ?_ | refine WM.backU ?_ | refine WM.back ?_
  | refine D.blkX ?_ | refine D.blkY rfl ?_ | refine D.roundX ?_ | refine D.roundR ?_ | refine D.blkR ?_
  | (refine I.gd ?_; first | refine WX.gy rfl rfl ?_ | refine WX.gn rfl rfl rfl rfl ?_ | refine WX.gnN rfl rfl rfl ?_ | refine WX.gu rfl rfl rfl ?_ | refine WX.guN rfl rfl ?_ | refine WX.gT rfl rfl (by first | assumption | omega) ?_ | refine WX.gF rfl rfl (by first | assumption | omega) ?_ | refine WX.gS rfl rfl (fun _ => ?_) (fun _ => ?_))
  | (refine I.cond ?_; first | refine W.condT rfl ?_ | refine W.condF rfl ?_ | refine W.condP rfl (by first | assumption | omega) ?_ | refine W.condN rfl (by first | assumption | omega) ?_)
  | (refine I.mv ?_; refine WX.move rfl rfl ?_) | (refine I.as ?_; refine WX.assign rfl rfl ?_)
  | (refine I.nc ?_; first | refine WX.nilCheck rfl rfl ?_ | refine WX.nilE rfl (by assumption) (by assumption) rfl ?_)
  | (refine I.fa ?_; first | refine WX.fieldAddr rfl rfl ?_ | refine WX.fieldE rfl (by assumption) (by assumption) rfl ?_)
  | (refine I.ld ?_; first | refine WX.load rfl rfl rfl ?_ | refine WX.loadE rfl (by assumption) (by assumption) rfl rfl rfl ?_ | refine WX.loadA rfl rfl rfl rfl ?_ | refine WX.loadEW rfl (by assumption) (by assumption) rfl rfl ?_)
  | (refine I.bin ?_; first | refine WX.lss rfl rfl rfl ?_ | refine WX.eql rfl rfl rfl ?_ | refine WX.neq rfl rfl rfl ?_ | refine WX.leq rfl rfl rfl ?_ | refine WX.gtr rfl rfl rfl ?_ | refine WX.geq rfl rfl rfl ?_ | refine WX.add rfl rfl rfl (by omega) ?_ | refine WX.sub' rfl rfl rfl (by omega) ?_ | refine WX.eqPN rfl rfl rfl ?_ | refine WX.nePN rfl rfl rfl ?_ | refine WX.eqNN rfl rfl rfl ?_ | refine WX.neNN rfl rfl rfl ?_)
  | (refine I.un ?_; first | refine WX.notD rfl rfl ?_ | refine WX.not rfl rfl ?_)
  | (refine I.pk ?_; first | refine WX.pickT rfl rfl rfl ?_ | refine WX.pickF rfl rfl rfl ?_)
  | (refine I.bi ?_; first | refine WX.lenSl rfl (by assumption) rfl ?_ | refine WX.len rfl rfl ?_ | refine WX.lenS rfl rfl ?_ | refine WX.min rfl rfl rfl ?_ | refine WX.max rfl rfl rfl ?_)
  | (refine I.ix ?_; first | refine WX.idx rfl rfl (by assumption) (by assumption) rfl ?_ | refine WX.idxI rfl rfl (by assumption) (by omega) (by assumption) rfl ?_ | refine WX.idxP rfl rfl (by omega) rfl ?_)
  | (refine I.sl ?_; refine WX.slTo rfl rfl (by assumption) (by omega) rfl ?_)
  | (refine I.st ?_; first | (refine WX.store rfl rfl rfl rfl ?_; try simp only [List.set_cons_zero, List.set_cons_succ, Nat.reduceAdd]) | (refine WX.storeG rfl rfl rfl rfl rfl rfl ?_; try simp only [setAt, List.set_cons_zero, List.set_cons_succ, Nat.reduceAdd]; try rw [setAt_whole (by rfl)]))
  | (refine I.bd ?_; refine WX.build rfl rfl rfl ?_; try simp only [setAt, Value.cells, List.set_cons_zero, List.set_cons_succ]) | (refine I.bx ?_; refine WX.box rfl rfl rfl (fun _ => ?_)) | (refine I.al ?_; refine WX.alloc rfl (fun _ => ?_)) | (refine I.ex ?_; refine WX.extract rfl rfl rfl ?_) | (refine I.ld ?_; refine WX.load rfl (col_get h1 h2) rfl ?_))
            refine D.round (k + 1) ⟨by omega, by rw [hn, if_neg (by simp [isNext, c3])]⟩ (by omega) (by repeat (first | exact Fsub.nil | refine Fsub.cons rfl ?_)) (Hsub.of_picks inferInstance)
        · refine W.quiet Try.mix (by kernel_rfl) ?_
          repeat' (first
  | refine W.seq ?_ | refine W.region ?_ | refine WX.nil ?_ | refine D.seq ?_ | refine W.block ?_ | refine D.blk ?_ | refine W.skip ?_ | refine W.exit ?_ | refine W.ret ?_
  | refine WM.nil ?_ | refine WM.un ?_ | refine WM.an ?_ | refine WM.backU ?_ | refine WM.back ?_
  | refine D.blkX ?_ | refine D.blkY rfl ?_ | refine D.roundX ?_ | refine D.roundR ?_ | refine D.blkR ?_
  | (refine I.gd ?_; first | refine WX.gy rfl rfl ?_ | refine WX.gn rfl rfl rfl rfl ?_ | refine WX.gnN rfl rfl rfl ?_ | refine WX.gu rfl rfl rfl ?_ | refine WX.guN rfl rfl ?_ | refine WX.gT rfl rfl (by first | assumption | omega) ?_ | refine WX.gF rfl rfl (by first | assumption | omega) ?_ | refine WX.gS rfl rfl (fun _ => ?_) (fun _ => ?_))
  | (refine I.cond ?_; first | refine W.condT rfl ?_ | refine W.condF rfl ?_ | refine W.condP rfl (by first | assumption | omega) ?_ | refine W.condN rfl (by first | assumption | omega) ?_)
  | (refine I.mv ?_; refine WX.move rfl rfl ?_) | (refine I.as ?_; refine WX.assign rfl rfl ?_)
  | (refine I.nc ?_; first | refine WX.nilCheck rfl rfl ?_ | refine WX.nilE rfl (by assumption) (by assumption) rfl ?_)
  | (refine I.fa ?_; first | refine WX.fieldAddr rfl rfl ?_ | refine WX.fieldE rfl (by assumption) (by assumption) rfl ?_)
  | (refine I.ld ?_; first | refine WX.load rfl rfl rfl ?_ | refine WX.loadE rfl (by assumption) (by assumption) rfl rfl rfl ?_ | refine WX.loadA rfl rfl rfl rfl ?_ | refine WX.loadEW rfl (by assumption) (by assumption) rfl rfl ?_)
  | (refine I.bin ?_; first | refine WX.lss rfl rfl rfl ?_ | refine WX.eql rfl rfl rfl ?_ | refine WX.neq rfl rfl rfl ?_ | refine WX.leq rfl rfl rfl ?_ | refine WX.gtr rfl rfl rfl ?_ | refine WX.geq rfl rfl rfl ?_ | refine WX.add rfl rfl rfl (by omega) ?_ | refine WX.sub' rfl rfl rfl (by omega) ?_ | refine WX.eqPN rfl rfl rfl ?_ | refine WX.nePN rfl rfl rfl ?_ | refine WX.eqNN rfl rfl rfl ?_ | refine WX.neNN rfl rfl rfl ?_)
  | (refine I.un ?_; first | refine WX.notD rfl rfl ?_ | refine WX.not rfl rfl ?_)
  | (refine I.pk ?_; first | refine WX.pickT rfl rfl rfl ?_ | refine WX.pickF rfl rfl rfl ?_)
  | (refine I.bi ?_; first | refine WX.lenSl rfl (by assumption) rfl ?_ | refine WX.len rfl rfl ?_ | refine WX.lenS rfl rfl ?_ | refine WX.min rfl rfl rfl ?_ | refine WX.max rfl rfl rfl ?_)
  | (refine I.ix ?_; first | refine WX.idx rfl rfl (by assumption) (by assumption) rfl ?_ | refine WX.idxI rfl rfl (by assumption) (by omega) (by assumption) rfl ?_ | refine WX.idxP rfl rfl (by omega) rfl ?_)
  | (refine I.sl ?_; refine WX.slTo rfl rfl (by assumption) (by omega) rfl ?_)
  | (refine I.st ?_; first | (refine WX.store rfl rfl rfl rfl ?_; try simp only [List.set_cons_zero, List.set_cons_succ, Nat.reduceAdd]) | (refine WX.storeG rfl rfl rfl rfl rfl rfl ?_; try simp only [setAt, List.set_cons_zero, List.set_cons_succ, Nat.reduceAdd]; try rw [setAt_whole (by rfl)]))
  | (refine I.bd ?_; refine WX.build rfl rfl rfl ?_; try simp only [setAt, Value.cells, List.set_cons_zero, List.set_cons_succ]) | (refine I.bx ?_; refine WX.box rfl rfl rfl (fun _ => ?_)) | (refine I.al ?_; refine WX.alloc rfl (fun _ => ?_)) | (refine I.ex ?_; refine WX.extract rfl rfl rfl ?_) | (refine I.ld ?_; refine WX.load rfl (col_get h1 h2) rfl ?_))
          refine D.round (k + 1) ⟨by omega, by rw [hn, if_neg (by simp [isNext]; omega)]⟩ (by omega) (by repeat (first | exact Fsub.nil | refine Fsub.cons rfl ?_)) (Hsub.of_picks inferInstance)
      · refine W.quiet Try.mix (by kernel_rfl) ?_
        repeat' (first
  | refine W.seq ?_ | refine W.region ?_ | refine WX.nil ?_ | refine D.seq ?_ | refine W.block ?_ | refine D.blk ?_ | refine W.skip ?_ | refine W.exit ?_ | refine W.ret ?_
  | refine WM.nil ?_ | refine WM.un ?_ | refine WM.an ?_ | refine WM.backU ?_ | refine WM.back ?_
  | refine D.blkX ?_ | refine D.blkY rfl ?_ | refine D.roundX ?_ | refine D.roundR ?_ | refine D.blkR ?_
  | (refine I.gd ?_; first | refine WX.gy rfl rfl ?_ | refine WX.gn rfl rfl rfl rfl ?_ | refine WX.gnN rfl rfl rfl ?_ | refine WX.gu rfl rfl rfl ?_ | refine WX.guN rfl rfl ?_ | refine WX.gT rfl rfl (by first | assumption | omega) ?_ | refine WX.gF rfl rfl (by first | assumption | omega) ?_ | refine WX.gS rfl rfl (fun _ => ?_) (fun _ => ?_))
  | (refine I.cond ?_; first | refine W.condT rfl ?_ | refine W.condF rfl ?_ | refine W.condP rfl (by first | assumption | omega) ?_ | refine W.condN rfl (by first | assumption | omega) ?_)
  | (refine I.mv ?_; refine WX.move rfl rfl ?_) | (refine I.as ?_; refine WX.assign rfl rfl ?_)
  | (refine I.nc ?_; first | refine WX.nilCheck rfl rfl ?_ | refine WX.nilE rfl (by assumption) (by assumption) rfl ?_)
  | (refine I.fa ?_; first | refine WX.fieldAddr rfl rfl ?_ | refine WX.fieldE rfl (by assumption) (by assumption) rfl ?_)
  | (refine I.ld ?_; first | refine WX.load rfl rfl rfl ?_ | refine WX.loadE rfl (by assumption) (by assumption) rfl rfl rfl ?_ | refine WX.loadA rfl rfl rfl rfl ?_ | refine WX.loadEW rfl (by assumption) (by assumption) rfl rfl ?_)
  | (refine I.bin ?_; first | refine WX.lss rfl rfl rfl ?_ | refine WX.eql rfl rfl rfl ?_ | refine WX.neq rfl rfl rfl ?_ | refine WX.leq rfl rfl rfl ?_ | refine WX.gtr rfl rfl rfl ?_ | refine WX.geq rfl rfl rfl ?_ | refine WX.add rfl rfl rfl (by omega) ?_ | refine WX.sub' rfl rfl rfl (by omega) ?_ | refine WX.eqPN rfl rfl rfl ?_ | refine WX.nePN rfl rfl rfl ?_ | refine WX.eqNN rfl rfl rfl ?_ | refine WX.neNN rfl rfl rfl ?_)
  | (refine I.un ?_; first | refine WX.notD rfl rfl ?_ | refine WX.not rfl rfl ?_)
  | (refine I.pk ?_; first | refine WX.pickT rfl rfl rfl ?_ | refine WX.pickF rfl rfl rfl ?_)
  | (refine I.bi ?_; first | refine WX.lenSl rfl (by assumption) rfl ?_ | refine WX.len rfl rfl ?_ | refine WX.lenS rfl rfl ?_ | refine WX.min rfl rfl rfl ?_ | refine WX.max rfl rfl rfl ?_)
  | (refine I.ix ?_; first | refine WX.idx rfl rfl (by assumption) (by assumption) rfl ?_ | refine WX.idxI rfl rfl (by assumption) (by omega) (by assumption) rfl ?_ | refine WX.idxP rfl rfl (by omega) rfl ?_)
  | (refine I.sl ?_; refine WX.slTo rfl rfl (by assumption) (by omega) rfl ?_)
  | (refine I.st ?_; first | (refine WX.store rfl rfl rfl rfl ?_; try simp only [List.set_cons_zero, List.set_cons_succ, Nat.reduceAdd]) | (refine WX.storeG rfl rfl rfl rfl rfl rfl ?_; try simp only [setAt, List.set_cons_zero, List.set_cons_succ, Nat.reduceAdd]; try rw [setAt_whole (by rfl)]))
  | (refine I.bd ?_; refine WX.build rfl rfl rfl ?_; try simp only [setAt, Value.cells, List.set_cons_zero, List.set_cons_succ]) | (refine I.bx ?_; refine WX.box rfl rfl rfl (fun _ => ?_)) | (refine I.al ?_; refine WX.alloc rfl (fun _ => ?_)) | (refine I.ex ?_; refine WX.extract rfl rfl rfl ?_) | (refine I.ld ?_; refine WX.load rfl (col_get h1 h2) rfl ?_))
        refine D.round (k + 1) ⟨by omega, by rw [hn, if_neg (by simp [isNext, c1])]⟩ (by omega) (by repeat (first | exact Fsub.nil | refine Fsub.cons rfl ?_)) (Hsub.of_picks inferInstance)
    · obtain rfl : k = es.length := by omega
      repeat' (first
  | refine W.seq ?_ | refine W.region ?_ | refine WX.nil ?_ | refine D.seq ?_ | refine W.block ?_ | refine D.blk ?_ | refine W.skip ?_ | refine W.exit ?_ | refine W.ret ?_
  | refine WM.nil ?_ | refine WM.un ?_ | refine WM.an ?_ | refine WM.backU ?_ | refine WM.back ?_
  | refine D.blkX ?_ | refine D.blkY rfl ?_ | refine D.roundX ?_ | refine D.roundR ?_ | refine D.blkR ?_
  | (refine I.gd ?_; first | refine WX.gy rfl rfl ?_ | refine WX.gn rfl rfl rfl rfl ?_ | refine WX.gnN rfl rfl rfl ?_ | refine WX.gu rfl rfl rfl ?_ | refine WX.guN rfl rfl ?_ | refine WX.gT rfl rfl (by first | assumption | omega) ?_ | refine WX.gF rfl rfl (by first | assumption | omega) ?_ | refine WX.gS rfl rfl (fun _ => ?_) (fun _ => ?_))
  | (refine I.cond ?_; first | refine W.condT rfl ?_ | refine W.condF rfl ?_ | refine W.condP rfl (by first | assumption | omega) ?_ | refine W.condN rfl (by first | assumption | omega) ?_)
  | (refine I.mv ?_; refine WX.move rfl rfl ?_) | (refine I.as ?_; refine WX.assign rfl rfl ?_)
  | (refine I.nc ?_; first | refine WX.nilCheck rfl rfl ?_ | refine WX.nilE rfl (by assumption) (by assumption) rfl ?_)
  | (refine I.fa ?_; first | refine WX.fieldAddr rfl rfl ?_ | refine WX.fieldE rfl (by assumption) (by assumption) rfl ?_)
  | (refine I.ld ?_; first | refine WX.load rfl rfl rfl ?_ | refine WX.loadE rfl (by assumption) (by assumption) rfl rfl rfl ?_ | refine WX.loadA rfl rfl rfl rfl ?_ | refine WX.loadEW rfl (by assumption) (by assumption) rfl rfl ?_)
  | (refine I.bin ?_; first | refine WX.lss rfl rfl rfl ?_ | refine WX.eql rfl rfl rfl ?_ | refine WX.neq rfl rfl rfl ?_ | refine WX.leq rfl rfl rfl ?_ | refine WX.gtr rfl rfl rfl ?_ | refine WX.geq rfl rfl rfl ?_ | refine WX.add rfl rfl rfl (by omega) ?_ | refine WX.sub' rfl rfl rfl (by omega) ?_ | refine WX.eqPN rfl rfl rfl ?_ | refine WX.nePN rfl rfl rfl ?_ | refine WX.eqNN rfl rfl rfl ?_ | refine WX.neNN rfl rfl rfl ?_)
  | (refine I.un ?_; first | refine WX.notD rfl rfl ?_ | refine WX.not rfl rfl ?_)
  | (refine I.pk ?_; first | refine WX.pickT rfl rfl rfl ?_ | refine WX.pickF rfl rfl rfl ?_)
  | (refine I.bi ?_; first | refine WX.lenSl rfl (by assumption) rfl ?_ | refine WX.len rfl rfl ?_ | refine WX.lenS rfl rfl ?_ | refine WX.min rfl rfl rfl ?_ | refine WX.max rfl rfl rfl ?_)
  | (refine I.ix ?_; first | refine WX.idx rfl rfl (by assumption) (by assumption) rfl ?_ | refine WX.idxI rfl rfl (by assumption) (by omega) (by assumption) rfl ?_ | refine WX.idxP rfl rfl (by omega) rfl ?_)
  | (refine I.sl ?_; refine WX.slTo rfl rfl (by assumption) (by omega) rfl ?_)
  | (refine I.st ?_; first | (refine WX.store rfl rfl rfl rfl ?_; try simp only [List.set_cons_zero, List.set_cons_succ, Nat.reduceAdd]) | (refine WX.storeG rfl rfl rfl rfl rfl rfl ?_; try simp only [setAt, List.set_cons_zero, List.set_cons_succ, Nat.reduceAdd]; try rw [setAt_whole (by rfl)]))
  | (refine I.bd ?_; refine WX.build rfl rfl rfl ?_; try simp only [setAt, Value.cells, List.set_cons_zero, List.set_cons_succ]) | (refine I.bx ?_; refine WX.box rfl rfl rfl (fun _ => ?_)) | (refine I.al ?_; refine WX.alloc rfl (fun _ => ?_)) | (refine I.ex ?_; refine WX.extract rfl rfl rfl ?_))
      exact D.finCT [SB b dc r, h] _ rfl rfl rfl rfl ⟨by rw [hn, List.drop_length]; rfl, rfl⟩
  · rw [decide_eq_false ho]
    repeat' (first
  | refine W.seq ?_ | refine W.region ?_ | refine WX.nil ?_ | refine D.seq ?_ | refine W.block ?_ | refine D.blk ?_ | refine W.skip ?_ | refine W.exit ?_ | refine W.ret ?_
  | refine WM.nil ?_ | refine WM.un ?_ | refine WM.an ?_ | refine WM.backU ?_ | refine WM.back ?_
  | refine D.blkX ?_ | refine D.blkY rfl ?_ | refine D.roundX ?_ | refine D.roundR ?_ | refine D.blkR ?_
  | (refine I.gd ?_; first | refine WX.gy rfl rfl ?_ | refine WX.gn rfl rfl rfl rfl ?_ | refine WX.gnN rfl rfl rfl ?_ | refine WX.gu rfl rfl rfl ?_ | refine WX.guN rfl rfl ?_ | refine WX.gT rfl rfl (by first | assumption | omega) ?_ | refine WX.gF rfl rfl (by first | assumption | omega) ?_ | refine WX.gS rfl rfl (fun _ => ?_) (fun _ => ?_))
  | (refine I.cond ?_; first | refine W.condT rfl ?_ | refine W.condF rfl ?_ | refine W.condP rfl (by first | assumption | omega) ?_ | refine W.condN rfl (by first | assumption | omega) ?_)
  | (refine I.mv ?_; refine WX.move rfl rfl ?_) | (refine I.as ?_; refine WX.assign rfl rfl ?_)
  | (refine I.nc ?_; first | refine WX.nilCheck rfl rfl ?_ | refine WX.nilE rfl (by assumption) (by assumption) rfl ?_)
  | (refine I.fa ?_; first | refine WX.fieldAddr rfl rfl ?_ | refine WX.fieldE rfl (by assumption) (by assumption) rfl ?_)
  | (refine I.ld ?_; first | refine WX.load rfl rfl rfl ?_ | refine WX.loadE rfl (by assumption) (by assumption) rfl rfl rfl ?_ | refine WX.loadA rfl rfl rfl rfl ?_ | refine WX.loadEW rfl (by assumption) (by assumption) rfl rfl ?_)
  | (refine I.bin ?_; first | refine WX.lss rfl rfl rfl ?_ | refine WX.eql rfl rfl rfl ?_ | refine WX.neq rfl rfl rfl ?_ | refine WX.leq rfl rfl rfl ?_ | refine WX.gtr rfl rfl rfl ?_ | refine WX.geq rfl rfl rfl ?_ | refine WX.add rfl rfl rfl (by omega) ?_ | refine WX.sub' rfl rfl rfl (by omega) ?_ | refine WX.eqPN rfl rfl rfl ?_ | refine WX.nePN rfl rfl rfl ?_ | refine WX.eqNN rfl rfl rfl ?_ | refine WX.neNN rfl rfl rfl ?_)
  | (refine I.un ?_; first | refine WX.notD rfl rfl ?_ | refine WX.not rfl rfl ?_)
  | (refine I.pk ?_; first | refine WX.pickT rfl rfl rfl ?_ | refine WX.pickF rfl rfl rfl ?_)
  | (refine I.bi ?_; first | refine WX.lenSl rfl (by assumption) rfl ?_ | refine WX.len rfl rfl ?_ | refine WX.lenS rfl rfl ?_ | refine WX.min rfl rfl rfl ?_ | refine WX.max rfl rfl rfl ?_)
  | (refine I.ix ?_; first | refine WX.idx rfl rfl (by assumption) (by assumption) rfl ?_ | refine WX.idxI rfl rfl (by assumption) (by omega) (by assumption) rfl ?_ | refine WX.idxP rfl rfl (by omega) rfl ?_)
  | (refine I.sl ?_; refine WX.slTo rfl rfl (by assumption) (by omega) rfl ?_)
  | (refine I.st ?_; first | (refine WX.store rfl rfl rfl rfl ?_; try simp only [List.set_cons_zero, List.set_cons_succ, Nat.reduceAdd]) | (refine WX.storeG rfl rfl rfl rfl rfl rfl ?_; try simp only [setAt, List.set_cons_zero, List.set_cons_succ, Nat.reduceAdd]; try rw [setAt_whole (by rfl)]))
  | (refine I.bd ?_; refine WX.build rfl rfl rfl ?_; try simp only [setAt, Value.cells, List.set_cons_zero, List.set_cons_succ]) | (refine I.bx ?_; refine WX.box rfl rfl rfl (fun _ => ?_)) | (refine I.al ?_; refine WX.alloc rfl (fun _ => ?_)) | (refine I.ex ?_; refine WX.extract rfl rfl rfl ?_))
    exact D.finCT [SB b dc r, h] _ rfl rfl rfl rfl ⟨by simp [nextL, ho, entRes, Enc.enc], rfl⟩
/-- The least of the others' counts among the first k datacenters; whether there is one. -/
def leastK (dc : Int) (r : Int → Int) : Nat → Int × Bool
  | 0 => (0, false)
  | k + 1 => if isOther dc k ∧ ((leastK dc r k).2 = false ∨ r k < (leastK dc r k).1) then (r k, true) else leastK dc r k

theorem least_ct {b : Nat} {dc : Int} {m : Nat} {r : Int → Int} (hm : m ≤ 3) :
    Ct Try.prog 30 [.pointer (some ⟨b, 0, none⟩), .int .i64 (m : Int)] [SB b dc r] (fun v H' => v = .int .i64 (leastK dc r m).1 ∧ H' = [SB b dc r]) := by
  refine Ct.mk' Try.func30 rfl rfl rfl (fun g R => ?_)
  try simp only [List.cons_append]
  simp only [List.nil_append]
  repeat' (first
  | refine W.seq ?_ | refine W.region ?_ | refine WX.nil ?_ | refine D.seq ?_ | refine W.block ?_ | refine D.blk ?_ | refine W.skip ?_ | refine W.exit ?_ | refine W.ret ?_
  | refine WM.nil ?_ | refine WM.un ?_ | refine WM.an ?_ | refine WM.backU ?_ | refine WM.back ?_
  | refine D.blkX ?_ | refine D.blkY rfl ?_ | refine D.roundX ?_ | refine D.roundR ?_ | refine D.blkR ?_
  | (refine I.gd ?_; first | refine WX.gy rfl rfl ?_ | refine WX.gn rfl rfl rfl rfl ?_ | refine WX.gnN rfl rfl rfl ?_ | refine WX.gu rfl rfl rfl ?_ | refine WX.guN rfl rfl ?_ | refine WX.gT rfl rfl (by first | assumption | omega) ?_ | refine WX.gF rfl rfl (by first | assumption | omega) ?_ | refine WX.gS rfl rfl (fun _ => ?_) (fun _ => ?_))
  | (refine I.cond ?_; first | refine W.condT rfl ?_ | refine W.condF rfl ?_ | refine W.condP rfl (by first | assumption | omega) ?_ | refine W.condN rfl (by first | assumption | omega) ?_)
  | (refine I.mv ?_; refine WX.move rfl rfl ?_) | (refine I.as ?_; refine WX.assign rfl rfl ?_)
  | (refine I.nc ?_; first | refine WX.nilCheck rfl rfl ?_ | refine WX.nilE rfl (by assumption) (by assumption) rfl ?_)
  | (refine I.fa ?_; first | refine WX.fieldAddr rfl rfl ?_ | refine WX.fieldE rfl (by assumption) (by assumption) rfl ?_)
  | (refine I.ld ?_; first | refine WX.load rfl rfl rfl ?_ | refine WX.loadE rfl (by assumption) (by assumption) rfl rfl rfl ?_ | refine WX.loadA rfl rfl rfl rfl ?_ | refine WX.loadEW rfl (by assumption) (by assumption) rfl rfl ?_)
  | (refine I.bin ?_; first | refine WX.lss rfl rfl rfl ?_ | refine WX.eql rfl rfl rfl ?_ | refine WX.neq rfl rfl rfl ?_ | refine WX.leq rfl rfl rfl ?_ | refine WX.gtr rfl rfl rfl ?_ | refine WX.geq rfl rfl rfl ?_ | refine WX.add rfl rfl rfl (by omega) ?_ | refine WX.sub' rfl rfl rfl (by omega) ?_ | refine WX.eqPN rfl rfl rfl ?_ | refine WX.nePN rfl rfl rfl ?_ | refine WX.eqNN rfl rfl rfl ?_ | refine WX.neNN rfl rfl rfl ?_)
  | (refine I.un ?_; first | refine WX.notD rfl rfl ?_ | refine WX.not rfl rfl ?_)
  | (refine I.pk ?_; first | refine WX.pickT rfl rfl rfl ?_ | refine WX.pickF rfl rfl rfl ?_)
  | (refine I.bi ?_; first | refine WX.lenSl rfl (by assumption) rfl ?_ | refine WX.len rfl rfl ?_ | refine WX.lenS rfl rfl ?_ | refine WX.min rfl rfl rfl ?_ | refine WX.max rfl rfl rfl ?_)
  | (refine I.ix ?_; first | refine WX.idx rfl rfl (by assumption) (by assumption) rfl ?_ | refine WX.idxI rfl rfl (by assumption) (by omega) (by assumption) rfl ?_ | refine WX.idxP rfl rfl (by omega) rfl ?_)
  | (refine I.sl ?_; refine WX.slTo rfl rfl (by assumption) (by omega) rfl ?_)
  | (refine I.st ?_; first | (refine WX.store rfl rfl rfl rfl ?_; try simp only [List.set_cons_zero, List.set_cons_succ, Nat.reduceAdd]) | (refine WX.storeG rfl rfl rfl rfl rfl rfl ?_; try simp only [setAt, List.set_cons_zero, List.set_cons_succ, Nat.reduceAdd]; try rw [setAt_whole (by rfl)]))
  | (refine I.bd ?_; refine WX.build rfl rfl rfl ?_; try simp only [setAt, Value.cells, List.set_cons_zero, List.set_cons_succ]) | (refine I.bx ?_; refine WX.box rfl rfl rfl (fun _ => ?_)) | (refine I.al ?_; refine WX.alloc rfl (fun _ => ?_)) | (refine I.ex ?_; refine WX.extract rfl rfl rfl ?_))
  refine W.as 10 (.int .i64 (m : Int)) rfl (by congr 1; omega) ?_
  refine W.loop (α := Nat) (fun k => k ≤ m)
    (fun k => [(0, .pointer (some ⟨b, 0, none⟩)), (5, .int .i64 (leastK dc r k).1), (6, .bool (leastK dc r k).2), (10, .int .i64 (m : Int)), (11, .int .i64 (k : Int))])
    (fun _ => [SB b dc r, R]) (fun k => m - k) 0 (Nat.zero_le _) (by repeat (first | exact Fsub.nil | refine Fsub.cons rfl ?_)) (Hsub.of_picks inferInstance) ?_
  intro k hk
  have hs : leastK dc r (k + 1) = if isOther dc k ∧ ((leastK dc r k).2 = false ∨ r k < (leastK dc r k).1) then (r k, true) else leastK dc r k := rfl
  by_cases hlt : k < m
  · generalize leastK dc r k = p at hs ⊢
    obtain ⟨l, f⟩ := p
    simp only [] at hs ⊢
    repeat' (first
  | refine W.seq ?_ | refine W.region ?_ | refine WX.nil ?_ | refine D.seq ?_ | refine W.block ?_ | refine D.blk ?_ | refine W.skip ?_ | refine W.exit ?_ | refine W.ret ?_
  | refine WM.nil ?_ | refine WM.un ?_ | refine WM.an ?_ | refine WM.backU ?_ | refine WM.back ?_
  | refine D.blkX ?_ | refine D.blkY rfl ?_ | refine D.roundX ?_ | refine D.roundR ?_ | refine D.blkR ?_
  | (refine I.gd ?_; first | refine WX.gy rfl rfl ?_ | refine WX.gn rfl rfl rfl rfl ?_ | refine WX.gnN rfl rfl rfl ?_ | refine WX.gu rfl rfl rfl ?_ | refine WX.guN rfl rfl ?_ | refine WX.gT rfl rfl (by first | assumption | omega) ?_ | refine WX.gF rfl rfl (by first | assumption | omega) ?_ | refine WX.gS rfl rfl (fun _ => ?_) (fun _ => ?_))
  | (refine I.cond ?_; first | refine W.condT rfl ?_ | refine W.condF rfl ?_ | refine W.condP rfl (by first | assumption | omega) ?_ | refine W.condN rfl (by first | assumption | omega) ?_)
  | (refine I.mv ?_; refine WX.move rfl rfl ?_) | (refine I.as ?_; refine WX.assign rfl rfl ?_)
  | (refine I.nc ?_; first | refine WX.nilCheck rfl rfl ?_ | refine WX.nilE rfl (by assumption) (by assumption) rfl ?_)
  | (refine I.fa ?_; first | refine WX.fieldAddr rfl rfl ?_ | refine WX.fieldE rfl (by assumption) (by assumption) rfl ?_)
  | (refine I.ld ?_; first | refine WX.load rfl rfl rfl ?_ | refine WX.loadE rfl (by assumption) (by assumption) rfl rfl rfl ?_ | refine WX.loadA rfl rfl rfl rfl ?_ | refine WX.loadEW rfl (by assumption) (by assumption) rfl rfl ?_)
  | (refine I.bin ?_; first | refine WX.lss rfl rfl rfl ?_ | refine WX.eql rfl rfl rfl ?_ | refine WX.neq rfl rfl rfl ?_ | refine WX.leq rfl rfl rfl ?_ | refine WX.gtr rfl rfl rfl ?_ | refine WX.geq rfl rfl rfl ?_ | refine WX.add rfl rfl rfl (by omega) ?_ | refine WX.sub' rfl rfl rfl (by omega) ?_ | refine WX.eqPN rfl rfl rfl ?_ | refine WX.nePN rfl rfl rfl ?_ | refine WX.eqNN rfl rfl rfl ?_ | refine WX.neNN rfl rfl rfl ?_)
  | (refine I.un ?_; first | refine WX.notD rfl rfl ?_ | refine WX.not rfl rfl ?_)
  | (refine I.pk ?_; first | refine WX.pickT rfl rfl rfl ?_ | refine WX.pickF rfl rfl rfl ?_)
  | (refine I.bi ?_; first | refine WX.lenSl rfl (by assumption) rfl ?_ | refine WX.len rfl rfl ?_ | refine WX.lenS rfl rfl ?_ | refine WX.min rfl rfl rfl ?_ | refine WX.max rfl rfl rfl ?_)
  | (refine I.ix ?_; first | refine WX.idx rfl rfl (by assumption) (by assumption) rfl ?_ | refine WX.idxI rfl rfl (by assumption) (by omega) (by assumption) rfl ?_ | refine WX.idxP rfl rfl (by omega) rfl ?_)
  | (refine I.sl ?_; refine WX.slTo rfl rfl (by assumption) (by omega) rfl ?_)
  | (refine I.st ?_; first | (refine WX.store rfl rfl rfl rfl ?_; try simp only [List.set_cons_zero, List.set_cons_succ, Nat.reduceAdd]) | (refine WX.storeG rfl rfl rfl rfl rfl rfl ?_; try simp only [setAt, List.set_cons_zero, List.set_cons_succ, Nat.reduceAdd]; try rw [setAt_whole (by rfl)]))
  | (refine I.bd ?_; refine WX.build rfl rfl rfl ?_; try simp only [setAt, Value.cells, List.set_cons_zero, List.set_cons_succ]) | (refine I.bx ?_; refine WX.box rfl rfl rfl (fun _ => ?_)) | (refine I.al ?_; refine WX.alloc rfl (fun _ => ?_)) | (refine I.ex ?_; refine WX.extract rfl rfl rfl ?_))
    refine WX.callQ rfl (other_ct (dc := dc) (r := r)) rfl ?_
    by_cases ho : isOther dc k
    · obtain ⟨h1, h2, h3⟩ := id ho
      rw [decide_eq_true ho]
      cases f
      · repeat' (first
  | refine W.seq ?_ | refine W.region ?_ | refine WX.nil ?_ | refine D.seq ?_ | refine W.block ?_ | refine D.blk ?_ | refine W.skip ?_ | refine W.exit ?_ | refine W.ret ?_
  | refine WM.nil ?_ | refine WM.un ?_ | refine WM.an ?_ | refine WM.backU ?_ | refine WM.back ?_
  | refine D.blkX ?_ | refine D.blkY rfl ?_ | refine D.roundX ?_ | refine D.roundR ?_ | refine D.blkR ?_
  | (refine I.gd ?_; first | refine WX.gy rfl rfl ?_ | refine WX.gn rfl rfl rfl rfl ?_ | refine WX.gnN rfl rfl rfl ?_ | refine WX.gu rfl rfl rfl ?_ | refine WX.guN rfl rfl ?_ | refine WX.gT rfl rfl (by first | assumption | omega) ?_ | refine WX.gF rfl rfl (by first | assumption | omega) ?_ | refine WX.gS rfl rfl (fun _ => ?_) (fun _ => ?_))
  | (refine I.cond ?_; first | refine W.condT rfl ?_ | refine W.condF rfl ?_ | refine W.condP rfl (by first | assumption | omega) ?_ | refine W.condN rfl (by first | assumption | omega) ?_)
  | (refine I.mv ?_; refine WX.move rfl rfl ?_) | (refine I.as ?_; refine WX.assign rfl rfl ?_)
  | (refine I.nc ?_; first | refine WX.nilCheck rfl rfl ?_ | refine WX.nilE rfl (by assumption) (by assumption) rfl ?_)
  | (refine I.fa ?_; first | refine WX.fieldAddr rfl rfl ?_ | refine WX.fieldE rfl (by assumption) (by assumption) rfl ?_)
  | (refine I.ld ?_; first | refine WX.load rfl rfl rfl ?_ | refine WX.loadE rfl (by assumption) (by assumption) rfl rfl rfl ?_ | refine WX.loadA rfl rfl rfl rfl ?_ | refine WX.loadEW rfl (by assumption) (by assumption) rfl rfl ?_)
  | (refine I.bin ?_; first | refine WX.lss rfl rfl rfl ?_ | refine WX.eql rfl rfl rfl ?_ | refine WX.neq rfl rfl rfl ?_ | refine WX.leq rfl rfl rfl ?_ | refine WX.gtr rfl rfl rfl ?_ | refine WX.geq rfl rfl rfl ?_ | refine WX.add rfl rfl rfl (by omega) ?_ | refine WX.sub' rfl rfl rfl (by omega) ?_ | refine WX.eqPN rfl rfl rfl ?_ | refine WX.nePN rfl rfl rfl ?_ | refine WX.eqNN rfl rfl rfl ?_ | refine WX.neNN rfl rfl rfl ?_)
  | (refine I.un ?_; first | refine WX.notD rfl rfl ?_ | refine WX.not rfl rfl ?_)
  | (refine I.pk ?_; first | refine WX.pickT rfl rfl rfl ?_ | refine WX.pickF rfl rfl rfl ?_)
  | (refine I.bi ?_; first | refine WX.lenSl rfl (by assumption) rfl ?_ | refine WX.len rfl rfl ?_ | refine WX.lenS rfl rfl ?_ | refine WX.min rfl rfl rfl ?_ | refine WX.max rfl rfl rfl ?_)
  | (refine I.ix ?_; first | refine WX.idx rfl rfl (by assumption) (by assumption) rfl ?_ | refine WX.idxI rfl rfl (by assumption) (by omega) (by assumption) rfl ?_ | refine WX.idxP rfl rfl (by omega) rfl ?_)
  | (refine I.sl ?_; refine WX.slTo rfl rfl (by assumption) (by omega) rfl ?_)
  | (refine I.st ?_; first | (refine WX.store rfl rfl rfl rfl ?_; try simp only [List.set_cons_zero, List.set_cons_succ, Nat.reduceAdd]) | (refine WX.storeG rfl rfl rfl rfl rfl rfl ?_; try simp only [setAt, List.set_cons_zero, List.set_cons_succ, Nat.reduceAdd]; try rw [setAt_whole (by rfl)]))
  | (refine I.bd ?_; refine WX.build rfl rfl rfl ?_; try simp only [setAt, Value.cells, List.set_cons_zero, List.set_cons_succ]) | (refine I.bx ?_; refine WX.box rfl rfl rfl (fun _ => ?_)) | (refine I.al ?_; refine WX.alloc rfl (fun _ => ?_)) | (refine I.ex ?_; refine WX.extract rfl rfl rfl ?_) | (refine I.ld ?_; refine WX.load rfl (col_get h1 h2) rfl ?_))
        rw [if_pos ⟨ho, .inl rfl⟩] at hs
        refine D.as 5 (.int .i64 (leastK dc r (k + 1)).1) rfl (by rw [hs]) (D.as 6 (.bool (leastK dc r (k + 1)).2) rfl (by rw [hs]) ?_)
        exact D.round (k + 1) (by omega) (by omega) (by repeat (first | exact Fsub.nil | refine Fsub.cons rfl ?_)) (Hsub.of_picks inferInstance)
      · by_cases hc : r k < l
        · repeat' (first
  | refine W.seq ?_ | refine W.region ?_ | refine WX.nil ?_ | refine D.seq ?_ | refine W.block ?_ | refine D.blk ?_ | refine W.skip ?_ | refine W.exit ?_ | refine W.ret ?_
  | refine WM.nil ?_ | refine WM.un ?_ | refine WM.an ?_ | refine WM.backU ?_ | refine WM.back ?_
  | refine D.blkX ?_ | refine D.blkY rfl ?_ | refine D.roundX ?_ | refine D.roundR ?_ | refine D.blkR ?_
  | (refine I.gd ?_; first | refine WX.gy rfl rfl ?_ | refine WX.gn rfl rfl rfl rfl ?_ | refine WX.gnN rfl rfl rfl ?_ | refine WX.gu rfl rfl rfl ?_ | refine WX.guN rfl rfl ?_ | refine WX.gT rfl rfl (by first | assumption | omega) ?_ | refine WX.gF rfl rfl (by first | assumption | omega) ?_ | refine WX.gS rfl rfl (fun _ => ?_) (fun _ => ?_))
  | (refine I.cond ?_; first | refine W.condT rfl ?_ | refine W.condF rfl ?_ | refine W.condP rfl (by first | assumption | omega) ?_ | refine W.condN rfl (by first | assumption | omega) ?_)
  | (refine I.mv ?_; refine WX.move rfl rfl ?_) | (refine I.as ?_; refine WX.assign rfl rfl ?_)
  | (refine I.nc ?_; first | refine WX.nilCheck rfl rfl ?_ | refine WX.nilE rfl (by assumption) (by assumption) rfl ?_)
  | (refine I.fa ?_; first | refine WX.fieldAddr rfl rfl ?_ | refine WX.fieldE rfl (by assumption) (by assumption) rfl ?_)
  | (refine I.ld ?_; first | refine WX.load rfl rfl rfl ?_ | refine WX.loadE rfl (by assumption) (by assumption) rfl rfl rfl ?_ | refine WX.loadA rfl rfl rfl rfl ?_ | refine WX.loadEW rfl (by assumption) (by assumption) rfl rfl ?_)
  | (refine I.bin ?_; first | refine WX.lss rfl rfl rfl ?_ | refine WX.eql rfl rfl rfl ?_ | refine WX.neq rfl rfl rfl ?_ | refine WX.leq rfl rfl rfl ?_ | refine WX.gtr rfl rfl rfl ?_ | refine WX.geq rfl rfl rfl ?_ | refine WX.add rfl rfl rfl (by omega) ?_ | refine WX.sub' rfl rfl rfl (by omega) ?_ | refine WX.eqPN rfl rfl rfl ?_ | refine WX.nePN rfl rfl rfl ?_ | refine WX.eqNN rfl rfl rfl ?_ | refine WX.neNN rfl rfl rfl ?_)
  | (refine I.un ?_; first | refine WX.notD rfl rfl ?_ | refine WX.not rfl rfl ?_)
  | (refine I.pk ?_; first | refine WX.pickT rfl rfl rfl ?_ | refine WX.pickF rfl rfl rfl ?_)
  | (refine I.bi ?_; first | refine WX.lenSl rfl (by assumption) rfl ?_ | refine WX.len rfl rfl ?_ | refine WX.lenS rfl rfl ?_ | refine WX.min rfl rfl rfl ?_ | refine WX.max rfl rfl rfl ?_)
  | (refine I.ix ?_; first | refine WX.idx rfl rfl (by assumption) (by assumption) rfl ?_ | refine WX.idxI rfl rfl (by assumption) (by omega) (by assumption) rfl ?_ | refine WX.idxP rfl rfl (by omega) rfl ?_)
  | (refine I.sl ?_; refine WX.slTo rfl rfl (by assumption) (by omega) rfl ?_)
  | (refine I.st ?_; first | (refine WX.store rfl rfl rfl rfl ?_; try simp only [List.set_cons_zero, List.set_cons_succ, Nat.reduceAdd]) | (refine WX.storeG rfl rfl rfl rfl rfl rfl ?_; try simp only [setAt, List.set_cons_zero, List.set_cons_succ, Nat.reduceAdd]; try rw [setAt_whole (by rfl)]))
  | (refine I.bd ?_; refine WX.build rfl rfl rfl ?_; try simp only [setAt, Value.cells, List.set_cons_zero, List.set_cons_succ]) | (refine I.bx ?_; refine WX.box rfl rfl rfl (fun _ => ?_)) | (refine I.al ?_; refine WX.alloc rfl (fun _ => ?_)) | (refine I.ex ?_; refine WX.extract rfl rfl rfl ?_) | (refine I.ld ?_; refine WX.load rfl (col_get h1 h2) rfl ?_))
          rw [if_pos ⟨ho, .inr hc⟩] at hs
          refine D.as 5 (.int .i64 (leastK dc r (k + 1)).1) rfl (by rw [hs]) (D.as 6 (.bool (leastK dc r (k + 1)).2) rfl (by rw [hs]) ?_)
          exact D.round (k + 1) (by omega) (by omega) (by repeat (first | exact Fsub.nil | refine Fsub.cons rfl ?_)) (Hsub.of_picks inferInstance)
        · repeat' (first
  | refine W.seq ?_ | refine W.region ?_ | refine WX.nil ?_ | refine D.seq ?_ | refine W.block ?_ | refine D.blk ?_ | refine W.skip ?_ | refine W.exit ?_ | refine W.ret ?_
  | refine WM.nil ?_ | refine WM.un ?_ | refine WM.an ?_ | refine WM.backU ?_ | refine WM.back ?_
  | refine D.blkX ?_ | refine D.blkY rfl ?_ | refine D.roundX ?_ | refine D.roundR ?_ | refine D.blkR ?_
  | (refine I.gd ?_; first | refine WX.gy rfl rfl ?_ | refine WX.gn rfl rfl rfl rfl ?_ | refine WX.gnN rfl rfl rfl ?_ | refine WX.gu rfl rfl rfl ?_ | refine WX.guN rfl rfl ?_ | refine WX.gT rfl rfl (by first | assumption | omega) ?_ | refine WX.gF rfl rfl (by first | assumption | omega) ?_ | refine WX.gS rfl rfl (fun _ => ?_) (fun _ => ?_))
  | (refine I.cond ?_; first | refine W.condT rfl ?_ | refine W.condF rfl ?_ | refine W.condP rfl (by first | assumption | omega) ?_ | refine W.condN rfl (by first | assumption | omega) ?_)
  | (refine I.mv ?_; refine WX.move rfl rfl ?_) | (refine I.as ?_; refine WX.assign rfl rfl ?_)
  | (refine I.nc ?_; first | refine WX.nilCheck rfl rfl ?_ | refine WX.nilE rfl (by assumption) (by assumption) rfl ?_)
  | (refine I.fa ?_; first | refine WX.fieldAddr rfl rfl ?_ | refine WX.fieldE rfl (by assumption) (by assumption) rfl ?_)
  | (refine I.ld ?_; first | refine WX.load rfl rfl rfl ?_ | refine WX.loadE rfl (by assumption) (by assumption) rfl rfl rfl ?_ | refine WX.loadA rfl rfl rfl rfl ?_ | refine WX.loadEW rfl (by assumption) (by assumption) rfl rfl ?_)
  | (refine I.bin ?_; first | refine WX.lss rfl rfl rfl ?_ | refine WX.eql rfl rfl rfl ?_ | refine WX.neq rfl rfl rfl ?_ | refine WX.leq rfl rfl rfl ?_ | refine WX.gtr rfl rfl rfl ?_ | refine WX.geq rfl rfl rfl ?_ | refine WX.add rfl rfl rfl (by omega) ?_ | refine WX.sub' rfl rfl rfl (by omega) ?_ | refine WX.eqPN rfl rfl rfl ?_ | refine WX.nePN rfl rfl rfl ?_ | refine WX.eqNN rfl rfl rfl ?_ | refine WX.neNN rfl rfl rfl ?_)
  | (refine I.un ?_; first | refine WX.notD rfl rfl ?_ | refine WX.not rfl rfl ?_)
  | (refine I.pk ?_; first | refine WX.pickT rfl rfl rfl ?_ | refine WX.pickF rfl rfl rfl ?_)
  | (refine I.bi ?_; first | refine WX.lenSl rfl (by assumption) rfl ?_ | refine WX.len rfl rfl ?_ | refine WX.lenS rfl rfl ?_ | refine WX.min rfl rfl rfl ?_ | refine WX.max rfl rfl rfl ?_)
  | (refine I.ix ?_; first | refine WX.idx rfl rfl (by assumption) (by assumption) rfl ?_ | refine WX.idxI rfl rfl (by assumption) (by omega) (by assumption) rfl ?_ | refine WX.idxP rfl rfl (by omega) rfl ?_)
  | (refine I.sl ?_; refine WX.slTo rfl rfl (by assumption) (by omega) rfl ?_)
  | (refine I.st ?_; first | (refine WX.store rfl rfl rfl rfl ?_; try simp only [List.set_cons_zero, List.set_cons_succ, Nat.reduceAdd]) | (refine WX.storeG rfl rfl rfl rfl rfl rfl ?_; try simp only [setAt, List.set_cons_zero, List.set_cons_succ, Nat.reduceAdd]; try rw [setAt_whole (by rfl)]))
  | (refine I.bd ?_; refine WX.build rfl rfl rfl ?_; try simp only [setAt, Value.cells, List.set_cons_zero, List.set_cons_succ]) | (refine I.bx ?_; refine WX.box rfl rfl rfl (fun _ => ?_)) | (refine I.al ?_; refine WX.alloc rfl (fun _ => ?_)) | (refine I.ex ?_; refine WX.extract rfl rfl rfl ?_) | (refine I.ld ?_; refine WX.load rfl (col_get h1 h2) rfl ?_))
          rw [if_neg (by simp [hc])] at hs
          refine D.as 5 (.int .i64 (leastK dc r (k + 1)).1) rfl (by rw [hs]) (D.as 6 (.bool (leastK dc r (k + 1)).2) rfl (by rw [hs]) ?_)
          exact D.round (k + 1) (by omega) (by omega) (by repeat (first | exact Fsub.nil | refine Fsub.cons rfl ?_)) (Hsub.of_picks inferInstance)
    · rw [decide_eq_false ho]
      rw [if_neg (fun h => ho h.1)] at hs
      repeat' (first
  | refine W.seq ?_ | refine W.region ?_ | refine WX.nil ?_ | refine D.seq ?_ | refine W.block ?_ | refine D.blk ?_ | refine W.skip ?_ | refine W.exit ?_ | refine W.ret ?_
  | refine WM.nil ?_ | refine WM.un ?_ | refine WM.an ?_ | refine WM.backU ?_ | refine WM.back ?_
  | refine D.blkX ?_ | refine D.blkY rfl ?_ | refine D.roundX ?_ | refine D.roundR ?_ | refine D.blkR ?_
  | (refine I.gd ?_; first | refine WX.gy rfl rfl ?_ | refine WX.gn rfl rfl rfl rfl ?_ | refine WX.gnN rfl rfl rfl ?_ | refine WX.gu rfl rfl rfl ?_ | refine WX.guN rfl rfl ?_ | refine WX.gT rfl rfl (by first | assumption | omega) ?_ | refine WX.gF rfl rfl (by first | assumption | omega) ?_ | refine WX.gS rfl rfl (fun _ => ?_) (fun _ => ?_))
  | (refine I.cond ?_; first | refine W.condT rfl ?_ | refine W.condF rfl ?_ | refine W.condP rfl (by first | assumption | omega) ?_ | refine W.condN rfl (by first | assumption | omega) ?_)
  | (refine I.mv ?_; refine WX.move rfl rfl ?_) | (refine I.as ?_; refine WX.assign rfl rfl ?_)
  | (refine I.nc ?_; first | refine WX.nilCheck rfl rfl ?_ | refine WX.nilE rfl (by assumption) (by assumption) rfl ?_)
  | (refine I.fa ?_; first | refine WX.fieldAddr rfl rfl ?_ | refine WX.fieldE rfl (by assumption) (by assumption) rfl ?_)
  | (refine I.ld ?_; first | refine WX.load rfl rfl rfl ?_ | refine WX.loadE rfl (by assumption) (by assumption) rfl rfl rfl ?_ | refine WX.loadA rfl rfl rfl rfl ?_ | refine WX.loadEW rfl (by assumption) (by assumption) rfl rfl ?_)
  | (refine I.bin ?_; first | refine WX.lss rfl rfl rfl ?_ | refine WX.eql rfl rfl rfl ?_ | refine WX.neq rfl rfl rfl ?_ | refine WX.leq rfl rfl rfl ?_ | refine WX.gtr rfl rfl rfl ?_ | refine WX.geq rfl rfl rfl ?_ | refine WX.add rfl rfl rfl (by omega) ?_ | refine WX.sub' rfl rfl rfl (by omega) ?_ | refine WX.eqPN rfl rfl rfl ?_ | refine WX.nePN rfl rfl rfl ?_ | refine WX.eqNN rfl rfl rfl ?_ | refine WX.neNN rfl rfl rfl ?_)
  | (refine I.un ?_; first | refine WX.notD rfl rfl ?_ | refine WX.not rfl rfl ?_)
  | (refine I.pk ?_; first | refine WX.pickT rfl rfl rfl ?_ | refine WX.pickF rfl rfl rfl ?_)
  | (refine I.bi ?_; first | refine WX.lenSl rfl (by assumption) rfl ?_ | refine WX.len rfl rfl ?_ | refine WX.lenS rfl rfl ?_ | refine WX.min rfl rfl rfl ?_ | refine WX.max rfl rfl rfl ?_)
  | (refine I.ix ?_; first | refine WX.idx rfl rfl (by assumption) (by assumption) rfl ?_ | refine WX.idxI rfl rfl (by assumption) (by omega) (by assumption) rfl ?_ | refine WX.idxP rfl rfl (by omega) rfl ?_)
  | (refine I.sl ?_; refine WX.slTo rfl rfl (by assumption) (by omega) rfl ?_)
  | (refine I.st ?_; first | (refine WX.store rfl rfl rfl rfl ?_; try simp only [List.set_cons_zero, List.set_cons_succ, Nat.reduceAdd]) | (refine WX.storeG rfl rfl rfl rfl rfl rfl ?_; try simp only [setAt, List.set_cons_zero, List.set_cons_succ, Nat.reduceAdd]; try rw [setAt_whole (by rfl)]))
  | (refine I.bd ?_; refine WX.build rfl rfl rfl ?_; try simp only [setAt, Value.cells, List.set_cons_zero, List.set_cons_succ]) | (refine I.bx ?_; refine WX.box rfl rfl rfl (fun _ => ?_)) | (refine I.al ?_; refine WX.alloc rfl (fun _ => ?_)) | (refine I.ex ?_; refine WX.extract rfl rfl rfl ?_))
      refine D.as 5 (.int .i64 (leastK dc r (k + 1)).1) rfl (by rw [hs]) (D.as 6 (.bool (leastK dc r (k + 1)).2) rfl (by rw [hs]) ?_)
      exact D.round (k + 1) (by omega) (by omega) (by repeat (first | exact Fsub.nil | refine Fsub.cons rfl ?_)) (Hsub.of_picks inferInstance)
  · obtain rfl : k = m := by omega
    repeat' (first
  | refine W.seq ?_ | refine W.region ?_ | refine WX.nil ?_ | refine D.seq ?_ | refine W.block ?_ | refine D.blk ?_ | refine W.skip ?_ | refine W.exit ?_ | refine W.ret ?_
  | refine WM.nil ?_ | refine WM.un ?_ | refine WM.an ?_ | refine WM.backU ?_ | refine WM.back ?_
  | refine D.blkX ?_ | refine D.blkY rfl ?_ | refine D.roundX ?_ | refine D.roundR ?_ | refine D.blkR ?_
  | (refine I.gd ?_; first | refine WX.gy rfl rfl ?_ | refine WX.gn rfl rfl rfl rfl ?_ | refine WX.gnN rfl rfl rfl ?_ | refine WX.gu rfl rfl rfl ?_ | refine WX.guN rfl rfl ?_ | refine WX.gT rfl rfl (by first | assumption | omega) ?_ | refine WX.gF rfl rfl (by first | assumption | omega) ?_ | refine WX.gS rfl rfl (fun _ => ?_) (fun _ => ?_))
  | (refine I.cond ?_; first | refine W.condT rfl ?_ | refine W.condF rfl ?_ | refine W.condP rfl (by first | assumption | omega) ?_ | refine W.condN rfl (by first | assumption | omega) ?_)
  | (refine I.mv ?_; refine WX.move rfl rfl ?_) | (refine I.as ?_; refine WX.assign rfl rfl ?_)
  | (refine I.nc ?_; first | refine WX.nilCheck rfl rfl ?_ | refine WX.nilE rfl (by assumption) (by assumption) rfl ?_)
  | (refine I.fa ?_; first | refine WX.fieldAddr rfl rfl ?_ | refine WX.fieldE rfl (by assumption) (by assumption) rfl ?_)
  | (refine I.ld ?_; first | refine WX.load rfl rfl rfl ?_ | refine WX.loadE rfl (by assumption) (by assumption) rfl rfl rfl ?_ | refine WX.loadA rfl rfl rfl rfl ?_ | refine WX.loadEW rfl (by assumption) (by assumption) rfl rfl ?_)
  | (refine I.bin ?_; first | refine WX.lss rfl rfl rfl ?_ | refine WX.eql rfl rfl rfl ?_ | refine WX.neq rfl rfl rfl ?_ | refine WX.leq rfl rfl rfl ?_ | refine WX.gtr rfl rfl rfl ?_ | refine WX.geq rfl rfl rfl ?_ | refine WX.add rfl rfl rfl (by omega) ?_ | refine WX.sub' rfl rfl rfl (by omega) ?_ | refine WX.eqPN rfl rfl rfl ?_ | refine WX.nePN rfl rfl rfl ?_ | refine WX.eqNN rfl rfl rfl ?_ | refine WX.neNN rfl rfl rfl ?_)
  | (refine I.un ?_; first | refine WX.notD rfl rfl ?_ | refine WX.not rfl rfl ?_)
  | (refine I.pk ?_; first | refine WX.pickT rfl rfl rfl ?_ | refine WX.pickF rfl rfl rfl ?_)
  | (refine I.bi ?_; first | refine WX.lenSl rfl (by assumption) rfl ?_ | refine WX.len rfl rfl ?_ | refine WX.lenS rfl rfl ?_ | refine WX.min rfl rfl rfl ?_ | refine WX.max rfl rfl rfl ?_)
  | (refine I.ix ?_; first | refine WX.idx rfl rfl (by assumption) (by assumption) rfl ?_ | refine WX.idxI rfl rfl (by assumption) (by omega) (by assumption) rfl ?_ | refine WX.idxP rfl rfl (by omega) rfl ?_)
  | (refine I.sl ?_; refine WX.slTo rfl rfl (by assumption) (by omega) rfl ?_)
  | (refine I.st ?_; first | (refine WX.store rfl rfl rfl rfl ?_; try simp only [List.set_cons_zero, List.set_cons_succ, Nat.reduceAdd]) | (refine WX.storeG rfl rfl rfl rfl rfl rfl ?_; try simp only [setAt, List.set_cons_zero, List.set_cons_succ, Nat.reduceAdd]; try rw [setAt_whole (by rfl)]))
  | (refine I.bd ?_; refine WX.build rfl rfl rfl ?_; try simp only [setAt, Value.cells, List.set_cons_zero, List.set_cons_succ]) | (refine I.bx ?_; refine WX.box rfl rfl rfl (fun _ => ?_)) | (refine I.al ?_; refine WX.alloc rfl (fun _ => ?_)) | (refine I.ex ?_; refine WX.extract rfl rfl rfl ?_))
    exact D.fin1 [SB b dc r] _ rfl rfl ⟨rfl, rfl⟩
end Go.Proofs.Ytllopddalmdbjaa
