/-
  ShipAll: the log that the statement makes, and that all of it is shipped.
-/
import Derived.Test.YtllopddalmdbjaaShC
import Derived.Test.YtllopddalmdbjaaSlT
import Derived.Test.YtllopddalmdbjaaRows
set_option linter.unusedVariables false
set_option linter.unusedSimpArgs false
namespace Go.Proofs.Ytllopddalmdbjaa
open Go Go.Sl

/-- How many of the first k are of the datacenter d. -/
def cntK (cs : List Int) (d : Int) : Nat → Nat
  | 0 => 0
  | k + 1 => cntK cs d k + if (cs[k]?.getD 0) % 3 = d then 1 else 0
/-- The log of the first k. -/
def logK (cs : List Int) : Nat → List Ent
  | 0 => []
  | k + 1 => logK cs k ++ [{ dc := (cs[k]?.getD 0) % 3, seq := cntK cs ((cs[k]?.getD 0) % 3) (k + 1), op := (k : Int) + 1 }]
theorem cntK_le (cs : List Int) (d : Int) : ∀ k, cntK cs d k ≤ k
  | 0 => Nat.le_refl _
  | k + 1 => by have := cntK_le cs d k; simp only [cntK]; split <;> omega
theorem logK_len (cs : List Int) : ∀ k, (logK cs k).length = k
  | 0 => rfl
  | k + 1 => by simp [logK, logK_len cs k]
theorem logK_mem (cs : List Int) : ∀ k e, e ∈ logK cs k → e.rg = 0 ∧ 1 ≤ e.seq ∧ e.seq ≤ cntK cs e.dc k
  | 0, _, h => by cases h
  | k + 1, e, h => by
    simp only [logK, List.mem_append, List.mem_singleton] at h
    rcases h with h | rfl
    · obtain ⟨h1, h2, h3⟩ := logK_mem cs k e h
      refine ⟨h1, h2, ?_⟩
      simp only [cntK]; split <;> omega
    · refine ⟨rfl, ?_, Int.le_refl _⟩
      simp only [cntK, if_true]; omega
theorem logK_has (cs : List Int) (d : Int) : ∀ k i, 1 ≤ i → i ≤ cntK cs d k → ∃ e ∈ logK cs k, e.dc = d ∧ e.seq = (i : Int)
  | 0, i, h1, h2 => by simp only [cntK] at h2; omega
  | k + 1, i, h1, h2 => by
    by_cases h : i ≤ cntK cs d k
    · obtain ⟨e, he, h3⟩ := logK_has cs d k i h1 h
      exact ⟨e, by simp only [logK, List.mem_append]; exact .inl he, h3⟩
    · have hc : (cs[k]?.getD 0) % 3 = d := by
        apply Classical.byContradiction
        intro hne
        simp only [cntK, if_neg hne] at h2
        omega
      refine ⟨_, by simp only [logK, List.mem_append, List.mem_singleton]; exact .inr rfl, hc, ?_⟩
      subst hc
      simp only [cntK, if_true] at h2 ⊢
      omega

/-- The column of one who has been sent i. -/
def colOf (to : Int) (i : Nat) : Int → Int := fun y => if y = to then (i : Int) else 0
theorem colOf_zero (to : Int) : (fun _ => (0 : Int)) = colOf to 0 := by funext y; simp [colOf]
theorem colOf_upd (to : Int) (i j : Nat) : upd (colOf to i) to (j : Int) = colOf to j := by funext y; simp only [upd, colOf]; split <;> rfl
theorem next_some {cs : List Int} {d to : Int} {k i : Nat} (ho : isOther d to) (h1 : 1 ≤ i) (h2 : i ≤ cntK cs d k) : ∃ e, nextL d to (colOf to (i - 1)) (logK cs k) = some e ∧ e.dc = d ∧ e.rg = 0 ∧ e.seq = (i : Int) := by
  obtain ⟨e0, he0, h3, h4⟩ := logK_has cs d k i h1 h2
  have hp0 : isNext d (colOf to (i - 1) to) e0 = true := by simp [isNext, colOf, h3, h4]; omega
  cases hf : (logK cs k).find? (isNext d (colOf to (i - 1) to)) with
  | none => exact absurd hp0 (by simpa using List.find?_eq_none.1 hf e0 he0)
  | some e =>
    have hp := List.find?_some hf
    have hm := logK_mem cs k e (List.mem_of_find?_eq_some hf)
    simp only [isNext, colOf, if_true, decide_eq_true_eq] at hp
    exact ⟨e, by simp [nextL, ho, hf], hp.1, hm.1, by omega⟩
theorem next_none {cs : List Int} {d to : Int} {k : Nat} : nextL d to (colOf to (cntK cs d k)) (logK cs k) = none := by
  unfold nextL
  split
  · rw [List.find?_eq_none]
    intro e he hp
    obtain ⟨_, _, h3⟩ := logK_mem cs k e he
    simp only [isNext, colOf, if_true, decide_eq_true_eq] at hp
    obtain ⟨rfl, hp⟩ := hp
    omega
  · rfl
theorem least_col {d : Int} {m : Nat} (h0 : 0 ≤ d) (h3 : d < 3) : (leastK d (colOf ((d + 1) % 3) m) 3).1 = 0 := by
  obtain rfl | rfl | rfl : d = 0 ∨ d = 1 ∨ d = 2 := by omega
  all_goals simp [leastK, isOther, colOf]
  all_goals (split <;> first | rfl | (simp only []; omega))

/-- Three counts in an array. -/
theorem c3_get {x : Int} {r : Int → Int} (h0 : 0 ≤ x) (h3 : x < 3) : [Value.int .i64 (r 0), .int .i64 (r 1), .int .i64 (r 2)][0 + x.toNat * 1]? = some (.int .i64 (r x)) := by
  obtain rfl | rfl | rfl : x = 0 ∨ x = 1 ∨ x = 2 := by omega
  all_goals rfl
theorem c3_set {x c : Int} {r : Int → Int} (h0 : 0 ≤ x) (h3 : x < 3) : [Value.int .i64 (r 0), .int .i64 (r 1), .int .i64 (r 2)].set (0 + x.toNat * 1) (.int .i64 c) =
    [Value.int .i64 (upd r x c 0), .int .i64 (upd r x c 1), .int .i64 (upd r x c 2)] := by
  obtain rfl | rfl | rfl : x = 0 ∨ x = 1 ∨ x = 2 := by omega
  all_goals rfl
abbrev NB (b : Nat) (r : Int → Int) : Hp := [(b, .cells (List.toArray [.int .i64 (r 0), .int .i64 (r 1), .int .i64 (r 2)]) 43 (0, 0))]
theorem upd_self (r : Int → Int) (x c : Int) : upd r x c x = c := by simp [upd]

theorem tm3 (c : Int) : -3 < c.tmod 3 ∧ c.tmod 3 < 3 := ⟨by have := Int.lt_tmod_of_pos c (b := 3) (by omega); omega, Int.tmod_lt_of_pos c (by omega)⟩

def cnF (cs : List Int) (k : Nat) : Int → Int := fun y => cntK cs y k
theorem cnF_upd {cs : List Int} {k : Nat} {c : Int} (hc : cs[k]? = some c) : upd (cnF cs k) (c % 3) (cnF cs k (c % 3) + 1) = cnF cs (k + 1) := by
  funext y
  simp only [upd, cnF, cntK, hc, Option.getD_some]
  by_cases h : y = c % 3
  · subst h; simp
  · rw [if_neg h, if_neg (fun e => h e.symm)]; simp
theorem logK_succ {cs : List Int} {k : Nat} {c : Int} (hc : cs[k]? = some c) : logK cs (k + 1) = logK cs k ++ [{ dc := c % 3, seq := cnF cs (k + 1) (c % 3), op := (k : Int) + 1 }] := by
  simp only [logK, hc, Option.getD_some, cnF]

theorem cell3 {e : Ent} {d : Int} {i : Nat} (e1 : e.dc = d) (e2 : e.rg = 0) (e3 : e.seq = ((i + 1 : Nat) : Int)) : cellsEq [.i, .i, .i] [.int .i64 e.dc, .int .i64 e.rg, .int .i64 e.seq] [.int .i64 d, .int .i64 0, .int .i64 ((i : Int) + 1)] = some true := by
  rw [e1, e2, e3]; simp [cellsEq, cellEq]

set_option maxHeartbeats 2000000 in
theorem all_ct {dc : Int} {cs : List Int} {v : Value} {h : Hp} (hs : Rs cs v h) :
    Ct Try.prog 6 [.int .i64 dc, v] [h] (fun r H' => r = .bool true ∧ H' = [h]) := by
  refine Ct.mk' Try.func6 rfl rfl rfl (fun g R => ?_)
  try simp only [List.cons_append]
  simp only [List.nil_append]
  repeat' (first
  | refine W.seq ?_ | refine W.region ?_ | refine WX.nil ?_ | refine D.seq ?_ | refine W.block ?_ | refine D.blk ?_ | refine W.skip ?_ | refine W.exit ?_ | refine W.ret ?_
  | refine WM.nil ?_ | refine WM.un ?_ | refine WM.an ?_ | refine WM.backU ?_ | refine WM.back ?_
  | refine D.blkX ?_ | refine D.blkY rfl ?_ | refine D.roundX ?_ | refine D.roundR ?_ | refine D.blkR ?_
  | (refine I.gd ?_; first | refine WX.gy rfl rfl ?_ | refine WX.gn rfl rfl rfl rfl ?_ | refine WX.gnN rfl rfl rfl ?_ | refine WX.gu rfl rfl rfl ?_ | refine WX.guN rfl rfl ?_ | refine WX.gT rfl rfl (by first | assumption | omega) ?_ | refine WX.gF rfl rfl (by first | assumption | omega) ?_ | refine WX.gS rfl rfl (fun _ => ?_) (fun _ => ?_))
  | (refine I.cond ?_; first | refine W.condT rfl ?_ | refine W.condF rfl ?_ | refine W.condP rfl (by first | assumption | omega) ?_ | refine W.condN rfl (by first | assumption | omega) ?_)
  | (refine I.mv ?_; refine WX.move rfl rfl ?_) | (refine I.as ?_; refine WX.assign rfl rfl ?_)
  | (refine I.nc ?_; first | refine WX.nilCheck rfl rfl ?_ | refine WX.nilE rfl (by assumption) (by assumption) rfl ?_)
  | (refine I.fa ?_; first | refine WX.fieldAddr rfl rfl ?_ | refine WX.fieldE rfl (by assumption) (by assumption) rfl ?_)
  | (refine I.ld ?_; first | refine WX.load rfl rfl rfl ?_ | refine WX.loadE rfl (by assumption) (by assumption) rfl rfl rfl ?_ | refine WX.loadA rfl rfl rfl rfl ?_ | refine WX.loadEW rfl (by assumption) (by assumption) rfl rfl ?_)
  | (refine I.bin ?_; first | refine WX.lss rfl rfl rfl ?_ | refine WX.eql rfl rfl rfl ?_ | refine WX.neq rfl rfl rfl ?_ | refine WX.leq rfl rfl rfl ?_ | refine WX.gtr rfl rfl rfl ?_ | refine WX.geq rfl rfl rfl ?_ | refine WX.add rfl rfl rfl (by omega) ?_ | refine WX.sub' rfl rfl rfl (by omega) ?_ | refine WX.eqPN rfl rfl rfl ?_ | refine WX.nePN rfl rfl rfl ?_ | refine WX.eqNN rfl rfl rfl ?_ | refine WX.neNN rfl rfl rfl ?_)
  | (refine I.un ?_; first | refine WX.notD rfl rfl ?_ | refine WX.not rfl rfl ?_)
  | (refine I.pk ?_; first | refine WX.pickT rfl rfl rfl ?_ | refine WX.pickF rfl rfl rfl ?_)
  | (refine I.bi ?_; first | refine WX.lenSl rfl (by assumption) rfl ?_ | refine WX.len rfl rfl ?_ | refine WX.lenS rfl rfl ?_ | refine WX.min rfl rfl rfl ?_ | refine WX.max rfl rfl rfl ?_)
  | (refine I.ix ?_; first | refine WX.idx rfl rfl (by assumption) (by assumption) rfl ?_ | refine WX.idxI rfl rfl (by assumption) (by omega) (by assumption) rfl ?_ | refine WX.idxP rfl rfl (by omega) rfl ?_)
  | (refine I.sl ?_; refine WX.slTo rfl rfl (by assumption) (by omega) rfl ?_)
  | (refine I.st ?_; first | (refine WX.store rfl rfl rfl rfl ?_; try simp only [List.set_cons_zero, List.set_cons_succ, Nat.reduceAdd]) | (refine WX.storeG rfl rfl rfl rfl rfl rfl ?_; try simp only [setAt, List.set_cons_zero, List.set_cons_succ, Nat.reduceAdd]; try rw [setAt_whole (by rfl)]))
  | (refine I.bd ?_; refine WX.build rfl rfl rfl ?_; try simp only [setAt, Value.cells, List.set_cons_zero, List.set_cons_succ]) | (refine I.bx ?_; refine WX.box rfl rfl rfl (fun _ => ?_)) | (refine I.al ?_; refine WX.alloc rfl (fun _ => ?_)) | (refine I.ex ?_; refine WX.extract rfl rfl rfl ?_))
  refine WX.callQ rfl able_ct rfl ?_
  by_cases hl : 1000 < cs.length
  · repeat' (first
  | refine W.seq ?_ | refine W.region ?_ | refine WX.nil ?_ | refine D.seq ?_ | refine W.block ?_ | refine D.blk ?_ | refine W.skip ?_ | refine W.exit ?_ | refine W.ret ?_
  | refine WM.nil ?_ | refine WM.un ?_ | refine WM.an ?_ | refine WM.backU ?_ | refine WM.back ?_
  | refine D.blkX ?_ | refine D.blkY rfl ?_ | refine D.roundX ?_ | refine D.roundR ?_ | refine D.blkR ?_
  | (refine I.gd ?_; first | refine WX.gy rfl rfl ?_ | refine WX.gn rfl rfl rfl rfl ?_ | refine WX.gnN rfl rfl rfl ?_ | refine WX.gu rfl rfl rfl ?_ | refine WX.guN rfl rfl ?_ | refine WX.gT rfl rfl (by first | assumption | omega) ?_ | refine WX.gF rfl rfl (by first | assumption | omega) ?_ | refine WX.gS rfl rfl (fun _ => ?_) (fun _ => ?_))
  | (refine I.cond ?_; first | refine W.condT rfl ?_ | refine W.condF rfl ?_ | refine W.condP rfl (by first | assumption | omega) ?_ | refine W.condN rfl (by first | assumption | omega) ?_)
  | (refine I.mv ?_; refine WX.move rfl rfl ?_) | (refine I.as ?_; refine WX.assign rfl rfl ?_)
  | (refine I.nc ?_; first | refine WX.nilCheck rfl rfl ?_ | refine WX.nilE rfl (by assumption) (by assumption) rfl ?_)
  | (refine I.fa ?_; first | refine WX.fieldAddr rfl rfl ?_ | refine WX.fieldE rfl (by assumption) (by assumption) rfl ?_)
  | (refine I.ld ?_; first | refine WX.load rfl rfl rfl ?_ | refine WX.loadE rfl (by assumption) (by assumption) rfl rfl rfl ?_ | refine WX.loadA rfl rfl rfl rfl ?_ | refine WX.loadEW rfl (by assumption) (by assumption) rfl rfl ?_)
  | (refine I.bin ?_; first | refine WX.lss rfl rfl rfl ?_ | refine WX.eql rfl rfl rfl ?_ | refine WX.neq rfl rfl rfl ?_ | refine WX.leq rfl rfl rfl ?_ | refine WX.gtr rfl rfl rfl ?_ | refine WX.geq rfl rfl rfl ?_ | refine WX.add rfl rfl rfl (by omega) ?_ | refine WX.sub' rfl rfl rfl (by omega) ?_ | refine WX.eqPN rfl rfl rfl ?_ | refine WX.nePN rfl rfl rfl ?_ | refine WX.eqNN rfl rfl rfl ?_ | refine WX.neNN rfl rfl rfl ?_)
  | (refine I.un ?_; first | refine WX.notD rfl rfl ?_ | refine WX.not rfl rfl ?_)
  | (refine I.pk ?_; first | refine WX.pickT rfl rfl rfl ?_ | refine WX.pickF rfl rfl rfl ?_)
  | (refine I.bi ?_; first | refine WX.lenSl rfl (by assumption) rfl ?_ | refine WX.len rfl rfl ?_ | refine WX.lenS rfl rfl ?_ | refine WX.min rfl rfl rfl ?_ | refine WX.max rfl rfl rfl ?_)
  | (refine I.ix ?_; first | refine WX.idx rfl rfl (by assumption) (by assumption) rfl ?_ | refine WX.idxI rfl rfl (by assumption) (by omega) (by assumption) rfl ?_ | refine WX.idxP rfl rfl (by omega) rfl ?_)
  | (refine I.sl ?_; refine WX.slTo rfl rfl (by assumption) (by omega) rfl ?_)
  | (refine I.st ?_; first | (refine WX.store rfl rfl rfl rfl ?_; try simp only [List.set_cons_zero, List.set_cons_succ, Nat.reduceAdd]) | (refine WX.storeG rfl rfl rfl rfl rfl rfl ?_; try simp only [setAt, List.set_cons_zero, List.set_cons_succ, Nat.reduceAdd]; try rw [setAt_whole (by rfl)]))
  | (refine I.bd ?_; refine WX.build rfl rfl rfl ?_; try simp only [setAt, Value.cells, List.set_cons_zero, List.set_cons_succ]) | (refine I.bx ?_; refine WX.box rfl rfl rfl (fun _ => ?_)) | (refine I.al ?_; refine WX.alloc rfl (fun _ => ?_)) | (refine I.ex ?_; refine WX.extract rfl rfl rfl ?_))
    exact D.fin1 [h] _ rfl rfl ⟨rfl, rfl⟩
  · obtain ⟨hd1, hd2⟩ := tm3 dc
    repeat' (first
  | refine W.seq ?_ | refine W.region ?_ | refine WX.nil ?_ | refine D.seq ?_ | refine W.block ?_ | refine D.blk ?_ | refine W.skip ?_ | refine W.exit ?_ | refine W.ret ?_
  | refine WM.nil ?_ | refine WM.un ?_ | refine WM.an ?_ | refine WM.backU ?_ | refine WM.back ?_
  | refine D.blkX ?_ | refine D.blkY rfl ?_ | refine D.roundX ?_ | refine D.roundR ?_ | refine D.blkR ?_
  | (refine I.gd ?_; first | refine WX.gy rfl rfl ?_ | refine WX.gn rfl rfl rfl rfl ?_ | refine WX.gnN rfl rfl rfl ?_ | refine WX.gu rfl rfl rfl ?_ | refine WX.guN rfl rfl ?_ | refine WX.gT rfl rfl (by first | assumption | omega) ?_ | refine WX.gF rfl rfl (by first | assumption | omega) ?_ | refine WX.gS rfl rfl (fun _ => ?_) (fun _ => ?_))
  | (refine I.cond ?_; first | refine W.condT rfl ?_ | refine W.condF rfl ?_ | refine W.condP rfl (by first | assumption | omega) ?_ | refine W.condN rfl (by first | assumption | omega) ?_)
  | (refine I.mv ?_; refine WX.move rfl rfl ?_) | (refine I.as ?_; refine WX.assign rfl rfl ?_)
  | (refine I.nc ?_; first | refine WX.nilCheck rfl rfl ?_ | refine WX.nilE rfl (by assumption) (by assumption) rfl ?_)
  | (refine I.fa ?_; first | refine WX.fieldAddr rfl rfl ?_ | refine WX.fieldE rfl (by assumption) (by assumption) rfl ?_)
  | (refine I.ld ?_; first | refine WX.load rfl rfl rfl ?_ | refine WX.loadE rfl (by assumption) (by assumption) rfl rfl rfl ?_ | refine WX.loadA rfl rfl rfl rfl ?_ | refine WX.loadEW rfl (by assumption) (by assumption) rfl rfl ?_)
  | (refine I.bin ?_; first | refine WX.lss rfl rfl rfl ?_ | refine WX.eql rfl rfl rfl ?_ | refine WX.neq rfl rfl rfl ?_ | refine WX.leq rfl rfl rfl ?_ | refine WX.gtr rfl rfl rfl ?_ | refine WX.geq rfl rfl rfl ?_ | refine WX.add rfl rfl rfl (by omega) ?_ | refine WX.sub' rfl rfl rfl (by omega) ?_ | refine WX.eqPN rfl rfl rfl ?_ | refine WX.nePN rfl rfl rfl ?_ | refine WX.eqNN rfl rfl rfl ?_ | refine WX.neNN rfl rfl rfl ?_)
  | (refine I.un ?_; first | refine WX.notD rfl rfl ?_ | refine WX.not rfl rfl ?_)
  | (refine I.pk ?_; first | refine WX.pickT rfl rfl rfl ?_ | refine WX.pickF rfl rfl rfl ?_)
  | (refine I.bi ?_; first | refine WX.lenSl rfl (by assumption) rfl ?_ | refine WX.len rfl rfl ?_ | refine WX.lenS rfl rfl ?_ | refine WX.min rfl rfl rfl ?_ | refine WX.max rfl rfl rfl ?_)
  | (refine I.ix ?_; first | refine WX.idx rfl rfl (by assumption) (by assumption) rfl ?_ | refine WX.idxI rfl rfl (by assumption) (by omega) (by assumption) rfl ?_ | refine WX.idxP rfl rfl (by omega) rfl ?_)
  | (refine I.sl ?_; refine WX.slTo rfl rfl (by assumption) (by omega) rfl ?_)
  | (refine I.st ?_; first | (refine WX.store rfl rfl rfl rfl ?_; try simp only [List.set_cons_zero, List.set_cons_succ, Nat.reduceAdd]) | (refine WX.storeG rfl rfl rfl rfl rfl rfl ?_; try simp only [setAt, List.set_cons_zero, List.set_cons_succ, Nat.reduceAdd]; try rw [setAt_whole (by rfl)]))
  | (refine I.bd ?_; refine WX.build rfl rfl rfl ?_; try simp only [setAt, Value.cells, List.set_cons_zero, List.set_cons_succ]) | (refine I.bx ?_; refine WX.box rfl rfl rfl (fun _ => ?_)) | (refine I.al ?_; refine WX.alloc rfl (fun _ => ?_)) | (refine I.ex ?_; refine WX.extract rfl rfl rfl ?_) | (refine I.bin ?_; refine WX.rem rfl rfl rfl (by decide) ?_))
    obtain ⟨d, hd⟩ : ∃ d, d = dc % 3 := ⟨_, rfl⟩
    refine W.as 0 (.int .i64 d) rfl (by rw [md3, hd]) ?_
    have hd0 : 0 ≤ d := by omega
    have hd3 : d < 3 := by omega
    rename_i bn
    refine W.loop (α := Nat × Value × Hp) (fun x => x.1 ≤ cs.length ∧ IsSl 51 (logK cs x.1) x.2.1 x.2.2)
      (fun x => [(0, .int .i64 d), (1, v), (5, x.2.1), (6, .pointer (some ⟨bn, 0, none⟩)), (7, .int .i64 (x.1 : Int))])
      (fun x => [NB bn (cnF cs x.1), x.2.2, h, R]) (fun x => cs.length - x.1) (0, .slice none 0 0, []) ⟨Nat.zero_le _, IsSl.nil _⟩ (by repeat (first | exact Fsub.nil | refine Fsub.cons rfl ?_)) (by show Hsub _ [[(bn, .cells (List.toArray [.int .i64 0, .int .i64 0, .int .i64 0]) 43 (0, 0))], [], h, R]; exact (Hsub.of_picks inferInstance)) ?_
    rintro ⟨k, u, hu⟩ ⟨hk, hus⟩
    simp only [] at hk hus ⊢
    have hlen := logK_len cs k
    by_cases hlt : k < cs.length
    · obtain ⟨c, hc⟩ : ∃ c, cs[k]? = some c := ⟨_, List.getElem?_eq_getElem hlt⟩
      obtain ⟨hc1, hc2⟩ := tm3 c
      have hr := hus.rs
      have hcnt : 0 ≤ cnF cs k (c % 3) ∧ cnF cs k (c % 3) ≤ k := by have := cntK_le cs (c % 3) k; simp only [cnF]; omega
      have m0 : 0 ≤ c % 3 := by omega
      have m3 : c % 3 < 3 := by omega
      repeat' (first
  | refine W.seq ?_ | refine W.region ?_ | refine WX.nil ?_ | refine D.seq ?_ | refine W.block ?_ | refine D.blk ?_ | refine W.skip ?_ | refine W.exit ?_ | refine W.ret ?_
  | refine WM.nil ?_ | refine WM.un ?_ | refine WM.an ?_ | refine WM.backU ?_ | refine WM.back ?_
  | refine D.blkX ?_ | refine D.blkY rfl ?_ | refine D.roundX ?_ | refine D.roundR ?_ | refine D.blkR ?_
  | (refine I.gd ?_; first | refine WX.gy rfl rfl ?_ | refine WX.gn rfl rfl rfl rfl ?_ | refine WX.gnN rfl rfl rfl ?_ | refine WX.gu rfl rfl rfl ?_ | refine WX.guN rfl rfl ?_ | refine WX.gT rfl rfl (by first | assumption | omega) ?_ | refine WX.gF rfl rfl (by first | assumption | omega) ?_ | refine WX.gS rfl rfl (fun _ => ?_) (fun _ => ?_))
  | (refine I.cond ?_; first | refine W.condT rfl ?_ | refine W.condF rfl ?_ | refine W.condP rfl (by first | assumption | omega) ?_ | refine W.condN rfl (by first | assumption | omega) ?_)
  | (refine I.mv ?_; refine WX.move rfl rfl ?_) | (refine I.as ?_; refine WX.assign rfl rfl ?_)
  | (refine I.nc ?_; first | refine WX.nilCheck rfl rfl ?_ | refine WX.nilE rfl (by assumption) (by assumption) rfl ?_)
  | (refine I.fa ?_; first | refine WX.fieldAddr rfl rfl ?_ | refine WX.fieldE rfl (by assumption) (by assumption) rfl ?_)
  | (refine I.ld ?_; first | refine WX.load rfl rfl rfl ?_ | refine WX.loadE rfl (by assumption) (by assumption) rfl rfl rfl ?_ | refine WX.loadA rfl rfl rfl rfl ?_ | refine WX.loadEW rfl (by assumption) (by assumption) rfl rfl ?_)
  | (refine I.bin ?_; first | refine WX.lss rfl rfl rfl ?_ | refine WX.eql rfl rfl rfl ?_ | refine WX.neq rfl rfl rfl ?_ | refine WX.leq rfl rfl rfl ?_ | refine WX.gtr rfl rfl rfl ?_ | refine WX.geq rfl rfl rfl ?_ | refine WX.add rfl rfl rfl (by omega) ?_ | refine WX.sub' rfl rfl rfl (by omega) ?_ | refine WX.eqPN rfl rfl rfl ?_ | refine WX.nePN rfl rfl rfl ?_ | refine WX.eqNN rfl rfl rfl ?_ | refine WX.neNN rfl rfl rfl ?_)
  | (refine I.un ?_; first | refine WX.notD rfl rfl ?_ | refine WX.not rfl rfl ?_)
  | (refine I.pk ?_; first | refine WX.pickT rfl rfl rfl ?_ | refine WX.pickF rfl rfl rfl ?_)
  | (refine I.bi ?_; first | refine WX.lenSl rfl (by assumption) rfl ?_ | refine WX.len rfl rfl ?_ | refine WX.lenS rfl rfl ?_ | refine WX.min rfl rfl rfl ?_ | refine WX.max rfl rfl rfl ?_)
  | (refine I.ix ?_; first | refine WX.idx rfl rfl (by assumption) (by assumption) rfl ?_ | refine WX.idxI rfl rfl (by assumption) (by omega) (by assumption) rfl ?_ | refine WX.idxP rfl rfl (by omega) rfl ?_)
  | (refine I.sl ?_; refine WX.slTo rfl rfl (by assumption) (by omega) rfl ?_)
  | (refine I.st ?_; first | (refine WX.store rfl rfl rfl rfl ?_; try simp only [List.set_cons_zero, List.set_cons_succ, Nat.reduceAdd]) | (refine WX.storeG rfl rfl rfl rfl rfl rfl ?_; try simp only [setAt, List.set_cons_zero, List.set_cons_succ, Nat.reduceAdd]; try rw [setAt_whole (by rfl)]))
  | (refine I.bd ?_; refine WX.build rfl rfl rfl ?_; try simp only [setAt, Value.cells, List.set_cons_zero, List.set_cons_succ]) | (refine I.bx ?_; refine WX.box rfl rfl rfl (fun _ => ?_)) | (refine I.al ?_; refine WX.alloc rfl (fun _ => ?_)) | (refine I.ex ?_; refine WX.extract rfl rfl rfl ?_) | (refine I.bin ?_; refine WX.rem rfl rfl rfl (by decide) ?_))
      refine WX.as 39 (.int .i64 (c % 3)) rfl (by rw [md3]) (WX.as 8 (.int .i64 (c % 3)) rfl (by rw [md3]) ?_)
      repeat' (first
  | refine W.seq ?_ | refine W.region ?_ | refine WX.nil ?_ | refine D.seq ?_ | refine W.block ?_ | refine D.blk ?_ | refine W.skip ?_ | refine W.exit ?_ | refine W.ret ?_
  | refine WM.nil ?_ | refine WM.un ?_ | refine WM.an ?_ | refine WM.backU ?_ | refine WM.back ?_
  | refine D.blkX ?_ | refine D.blkY rfl ?_ | refine D.roundX ?_ | refine D.roundR ?_ | refine D.blkR ?_
  | (refine I.gd ?_; first | refine WX.gy rfl rfl ?_ | refine WX.gn rfl rfl rfl rfl ?_ | refine WX.gnN rfl rfl rfl ?_ | refine WX.gu rfl rfl rfl ?_ | refine WX.guN rfl rfl ?_ | refine WX.gT rfl rfl (by first | assumption | omega) ?_ | refine WX.gF rfl rfl (by first | assumption | omega) ?_ | refine WX.gS rfl rfl (fun _ => ?_) (fun _ => ?_))
  | (refine I.cond ?_; first | refine W.condT rfl ?_ | refine W.condF rfl ?_ | refine W.condP rfl (by first | assumption | omega) ?_ | refine W.condN rfl (by first | assumption | omega) ?_)
  | (refine I.mv ?_; refine WX.move rfl rfl ?_) | (refine I.as ?_; refine WX.assign rfl rfl ?_)
  | (refine I.nc ?_; first | refine WX.nilCheck rfl rfl ?_ | refine WX.nilE rfl (by assumption) (by assumption) rfl ?_)
  | (refine I.fa ?_; first | refine WX.fieldAddr rfl rfl ?_ | refine WX.fieldE rfl (by assumption) (by assumption) rfl ?_)
  | (refine I.ld ?_; first | refine WX.load rfl rfl rfl ?_ | refine WX.loadE rfl (by assumption) (by assumption) rfl rfl rfl ?_ | refine WX.loadA rfl rfl rfl rfl ?_ | refine WX.loadEW rfl (by assumption) (by assumption) rfl rfl ?_)
  | (refine I.bin ?_; first | refine WX.lss rfl rfl rfl ?_ | refine WX.eql rfl rfl rfl ?_ | refine WX.neq rfl rfl rfl ?_ | refine WX.leq rfl rfl rfl ?_ | refine WX.gtr rfl rfl rfl ?_ | refine WX.geq rfl rfl rfl ?_ | refine WX.add rfl rfl rfl (by omega) ?_ | refine WX.sub' rfl rfl rfl (by omega) ?_ | refine WX.eqPN rfl rfl rfl ?_ | refine WX.nePN rfl rfl rfl ?_ | refine WX.eqNN rfl rfl rfl ?_ | refine WX.neNN rfl rfl rfl ?_)
  | (refine I.un ?_; first | refine WX.notD rfl rfl ?_ | refine WX.not rfl rfl ?_)
  | (refine I.pk ?_; first | refine WX.pickT rfl rfl rfl ?_ | refine WX.pickF rfl rfl rfl ?_)
  | (refine I.bi ?_; first | refine WX.lenSl rfl (by assumption) rfl ?_ | refine WX.len rfl rfl ?_ | refine WX.lenS rfl rfl ?_ | refine WX.min rfl rfl rfl ?_ | refine WX.max rfl rfl rfl ?_)
  | (refine I.ix ?_; first | refine WX.idx rfl rfl (by assumption) (by assumption) rfl ?_ | refine WX.idxI rfl rfl (by assumption) (by omega) (by assumption) rfl ?_ | refine WX.idxP rfl rfl (by omega) rfl ?_)
  | (refine I.sl ?_; refine WX.slTo rfl rfl (by assumption) (by omega) rfl ?_)
  | (refine I.st ?_; first | (refine WX.store rfl rfl rfl rfl ?_; try simp only [List.set_cons_zero, List.set_cons_succ, Nat.reduceAdd]) | (refine WX.storeG rfl rfl rfl rfl rfl rfl ?_; try simp only [setAt, List.set_cons_zero, List.set_cons_succ, Nat.reduceAdd]; try rw [setAt_whole (by rfl)]))
  | (refine I.bd ?_; refine WX.build rfl rfl rfl ?_; try simp only [setAt, Value.cells, List.set_cons_zero, List.set_cons_succ]) | (refine I.bx ?_; refine WX.box rfl rfl rfl (fun _ => ?_)) | (refine I.al ?_; refine WX.alloc rfl (fun _ => ?_)) | (refine I.ex ?_; refine WX.extract rfl rfl rfl ?_) | (refine I.ld ?_; refine WX.load rfl (c3_get (r := cnF cs k) m0 m3) rfl ?_))
      refine I.st ?_
      refine WX.store rfl rfl rfl (Nat.ble_eq_true_of_le (by simp only [List.length_cons, List.length_nil]; omega)) ?_
      rw [c3_set m0 m3, cnF_upd hc]
      repeat' (first
  | refine W.seq ?_ | refine W.region ?_ | refine WX.nil ?_ | refine D.seq ?_ | refine W.block ?_ | refine D.blk ?_ | refine W.skip ?_ | refine W.exit ?_ | refine W.ret ?_
  | refine WM.nil ?_ | refine WM.un ?_ | refine WM.an ?_ | refine WM.backU ?_ | refine WM.back ?_
  | refine D.blkX ?_ | refine D.blkY rfl ?_ | refine D.roundX ?_ | refine D.roundR ?_ | refine D.blkR ?_
  | (refine I.gd ?_; first | refine WX.gy rfl rfl ?_ | refine WX.gn rfl rfl rfl rfl ?_ | refine WX.gnN rfl rfl rfl ?_ | refine WX.gu rfl rfl rfl ?_ | refine WX.guN rfl rfl ?_ | refine WX.gT rfl rfl (by first | assumption | omega) ?_ | refine WX.gF rfl rfl (by first | assumption | omega) ?_ | refine WX.gS rfl rfl (fun _ => ?_) (fun _ => ?_))
  | (refine I.cond ?_; first | refine W.condT rfl ?_ | refine W.condF rfl ?_ | refine W.condP rfl (by first | assumption | omega) ?_ | refine W.condN rfl (by first | assumption | omega) ?_)
  | (refine I.mv ?_; refine WX.move rfl rfl ?_) | (refine I.as ?_; refine WX.assign rfl rfl ?_)
  | (refine I.nc ?_; first | refine WX.nilCheck rfl rfl ?_ | refine WX.nilE rfl (by assumption) (by assumption) rfl ?_)
  | (refine I.fa ?_; first | refine WX.fieldAddr rfl rfl ?_ | refine WX.fieldE rfl (by assumption) (by assumption) rfl ?_)
  | (refine I.ld ?_; first | refine WX.load rfl rfl rfl ?_ | refine WX.loadE rfl (by assumption) (by assumption) rfl rfl rfl ?_ | refine WX.loadA rfl rfl rfl rfl ?_ | refine WX.loadEW rfl (by assumption) (by assumption) rfl rfl ?_)
  | (refine I.bin ?_; first | refine WX.lss rfl rfl rfl ?_ | refine WX.eql rfl rfl rfl ?_ | refine WX.neq rfl rfl rfl ?_ | refine WX.leq rfl rfl rfl ?_ | refine WX.gtr rfl rfl rfl ?_ | refine WX.geq rfl rfl rfl ?_ | refine WX.add rfl rfl rfl (by omega) ?_ | refine WX.sub' rfl rfl rfl (by omega) ?_ | refine WX.eqPN rfl rfl rfl ?_ | refine WX.nePN rfl rfl rfl ?_ | refine WX.eqNN rfl rfl rfl ?_ | refine WX.neNN rfl rfl rfl ?_)
  | (refine I.un ?_; first | refine WX.notD rfl rfl ?_ | refine WX.not rfl rfl ?_)
  | (refine I.pk ?_; first | refine WX.pickT rfl rfl rfl ?_ | refine WX.pickF rfl rfl rfl ?_)
  | (refine I.bi ?_; first | refine WX.lenSl rfl (by assumption) rfl ?_ | refine WX.len rfl rfl ?_ | refine WX.lenS rfl rfl ?_ | refine WX.min rfl rfl rfl ?_ | refine WX.max rfl rfl rfl ?_)
  | (refine I.ix ?_; first | refine WX.idx rfl rfl (by assumption) (by assumption) rfl ?_ | refine WX.idxI rfl rfl (by assumption) (by omega) (by assumption) rfl ?_ | refine WX.idxP rfl rfl (by omega) rfl ?_)
  | (refine I.sl ?_; refine WX.slTo rfl rfl (by assumption) (by omega) rfl ?_)
  | (refine I.st ?_; first | (refine WX.store rfl rfl rfl rfl ?_; try simp only [List.set_cons_zero, List.set_cons_succ, Nat.reduceAdd]) | (refine WX.storeG rfl rfl rfl rfl rfl rfl ?_; try simp only [setAt, List.set_cons_zero, List.set_cons_succ, Nat.reduceAdd]; try rw [setAt_whole (by rfl)]))
  | (refine I.bd ?_; refine WX.build rfl rfl rfl ?_; try simp only [setAt, Value.cells, List.set_cons_zero, List.set_cons_succ]) | (refine I.bx ?_; refine WX.box rfl rfl rfl (fun _ => ?_)) | (refine I.al ?_; refine WX.alloc rfl (fun _ => ?_)) | (refine I.ex ?_; refine WX.extract rfl rfl rfl ?_) | (refine I.ld ?_; refine WX.load rfl (c3_get (r := cnF cs (k + 1)) m0 m3) rfl ?_))
      refine I.bs ?_
      refine WX.lit (ys := [({ dc := c % 3, seq := cnF cs (k + 1) (c % 3), op := (k : Int) + 1 } : Ent)]) rfl rfl rfl rfl rfl rfl (by decide) rfl (fun v1 h1 hs1 => ?_)
      refine WX.app rfl rfl hus hs1.rs rfl rfl (by decide) (by simp only [List.length_cons, List.length_nil, hlen]; omega) rfl (fun v2 h2 hs2 => ?_)
      rw [← logK_succ hc] at hs2
      repeat' (first
  | refine W.seq ?_ | refine W.region ?_ | refine WX.nil ?_ | refine D.seq ?_ | refine W.block ?_ | refine D.blk ?_ | refine W.skip ?_ | refine W.exit ?_ | refine W.ret ?_
  | refine WM.nil ?_ | refine WM.un ?_ | refine WM.an ?_ | refine WM.backU ?_ | refine WM.back ?_
  | refine D.blkX ?_ | refine D.blkY rfl ?_ | refine D.roundX ?_ | refine D.roundR ?_ | refine D.blkR ?_
  | (refine I.gd ?_; first | refine WX.gy rfl rfl ?_ | refine WX.gn rfl rfl rfl rfl ?_ | refine WX.gnN rfl rfl rfl ?_ | refine WX.gu rfl rfl rfl ?_ | refine WX.guN rfl rfl ?_ | refine WX.gT rfl rfl (by first | assumption | omega) ?_ | refine WX.gF rfl rfl (by first | assumption | omega) ?_ | refine WX.gS rfl rfl (fun _ => ?_) (fun _ => ?_))
  | (refine I.cond ?_; first | refine W.condT rfl ?_ | refine W.condF rfl ?_ | refine W.condP rfl (by first | assumption | omega) ?_ | refine W.condN rfl (by first | assumption | omega) ?_)
  | (refine I.mv ?_; refine WX.move rfl rfl ?_) | (refine I.as ?_; refine WX.assign rfl rfl ?_)
  | (refine I.nc ?_; first | refine WX.nilCheck rfl rfl ?_ | refine WX.nilE rfl (by assumption) (by assumption) rfl ?_)
  | (refine I.fa ?_; first | refine WX.fieldAddr rfl rfl ?_ | refine WX.fieldE rfl (by assumption) (by assumption) rfl ?_)
  | (refine I.ld ?_; first | refine WX.load rfl rfl rfl ?_ | refine WX.loadE rfl (by assumption) (by assumption) rfl rfl rfl ?_ | refine WX.loadA rfl rfl rfl rfl ?_ | refine WX.loadEW rfl (by assumption) (by assumption) rfl rfl ?_)
  | (refine I.bin ?_; first | refine WX.lss rfl rfl rfl ?_ | refine WX.eql rfl rfl rfl ?_ | refine WX.neq rfl rfl rfl ?_ | refine WX.leq rfl rfl rfl ?_ | refine WX.gtr rfl rfl rfl ?_ | refine WX.geq rfl rfl rfl ?_ | refine WX.add rfl rfl rfl (by omega) ?_ | refine WX.sub' rfl rfl rfl (by omega) ?_ | refine WX.eqPN rfl rfl rfl ?_ | refine WX.nePN rfl rfl rfl ?_ | refine WX.eqNN rfl rfl rfl ?_ | refine WX.neNN rfl rfl rfl ?_)
  | (refine I.un ?_; first | refine WX.notD rfl rfl ?_ | refine WX.not rfl rfl ?_)
  | (refine I.pk ?_; first | refine WX.pickT rfl rfl rfl ?_ | refine WX.pickF rfl rfl rfl ?_)
  | (refine I.bi ?_; first | refine WX.lenSl rfl (by assumption) rfl ?_ | refine WX.len rfl rfl ?_ | refine WX.lenS rfl rfl ?_ | refine WX.min rfl rfl rfl ?_ | refine WX.max rfl rfl rfl ?_)
  | (refine I.ix ?_; first | refine WX.idx rfl rfl (by assumption) (by assumption) rfl ?_ | refine WX.idxI rfl rfl (by assumption) (by omega) (by assumption) rfl ?_ | refine WX.idxP rfl rfl (by omega) rfl ?_)
  | (refine I.sl ?_; refine WX.slTo rfl rfl (by assumption) (by omega) rfl ?_)
  | (refine I.st ?_; first | (refine WX.store rfl rfl rfl rfl ?_; try simp only [List.set_cons_zero, List.set_cons_succ, Nat.reduceAdd]) | (refine WX.storeG rfl rfl rfl rfl rfl rfl ?_; try simp only [setAt, List.set_cons_zero, List.set_cons_succ, Nat.reduceAdd]; try rw [setAt_whole (by rfl)]))
  | (refine I.bd ?_; refine WX.build rfl rfl rfl ?_; try simp only [setAt, Value.cells, List.set_cons_zero, List.set_cons_succ]) | (refine I.bx ?_; refine WX.box rfl rfl rfl (fun _ => ?_)) | (refine I.al ?_; refine WX.alloc rfl (fun _ => ?_)) | (refine I.ex ?_; refine WX.extract rfl rfl rfl ?_))
      exact D.round (k + 1, v2, h2) ⟨by simp only []; omega, hs2⟩ (by simp only []; omega) (by repeat (first | exact Fsub.nil | refine Fsub.cons rfl ?_)) (Hsub.of_picks inferInstance)
    · obtain rfl : k = cs.length := by omega
      have hr := hus.rs
      obtain ⟨to, hto⟩ : ∃ to, to = (d + 1) % 3 := ⟨_, rfl⟩
      have ht0 : 0 ≤ to := by omega
      have ht3 : to < 3 := by omega
      have hot : isOther d to := ⟨ht0, ht3, by omega⟩
      have hN := cntK_le cs d cs.length
      have hsq : ∀ e ∈ logK cs cs.length, e.seq ≤ 9223372036854775807 := fun e he => by
        have h1 := (logK_mem cs _ e he).2.2
        have h2 := cntK_le cs e.dc cs.length
        omega
      obtain ⟨N, hNe⟩ : ∃ N, N = cntK cs d cs.length := ⟨_, rfl⟩
      repeat' (first
  | refine W.seq ?_ | refine W.region ?_ | refine WX.nil ?_ | refine D.seq ?_ | refine W.block ?_ | refine D.blk ?_ | refine W.skip ?_ | refine W.exit ?_ | refine W.ret ?_
  | refine WM.nil ?_ | refine WM.un ?_ | refine WM.an ?_ | refine WM.backU ?_ | refine WM.back ?_
  | refine D.blkX ?_ | refine D.blkY rfl ?_ | refine D.roundX ?_ | refine D.roundR ?_ | refine D.blkR ?_
  | (refine I.gd ?_; first | refine WX.gy rfl rfl ?_ | refine WX.gn rfl rfl rfl rfl ?_ | refine WX.gnN rfl rfl rfl ?_ | refine WX.gu rfl rfl rfl ?_ | refine WX.guN rfl rfl ?_ | refine WX.gT rfl rfl (by first | assumption | omega) ?_ | refine WX.gF rfl rfl (by first | assumption | omega) ?_ | refine WX.gS rfl rfl (fun _ => ?_) (fun _ => ?_))
  | (refine I.cond ?_; first | refine W.condT rfl ?_ | refine W.condF rfl ?_ | refine W.condP rfl (by first | assumption | omega) ?_ | refine W.condN rfl (by first | assumption | omega) ?_)
  | (refine I.mv ?_; refine WX.move rfl rfl ?_) | (refine I.as ?_; refine WX.assign rfl rfl ?_)
  | (refine I.nc ?_; first | refine WX.nilCheck rfl rfl ?_ | refine WX.nilE rfl (by assumption) (by assumption) rfl ?_)
  | (refine I.fa ?_; first | refine WX.fieldAddr rfl rfl ?_ | refine WX.fieldE rfl (by assumption) (by assumption) rfl ?_)
  | (refine I.ld ?_; first | refine WX.load rfl rfl rfl ?_ | refine WX.loadE rfl (by assumption) (by assumption) rfl rfl rfl ?_ | refine WX.loadA rfl rfl rfl rfl ?_ | refine WX.loadEW rfl (by assumption) (by assumption) rfl rfl ?_)
  | (refine I.bin ?_; first | refine WX.lss rfl rfl rfl ?_ | refine WX.eql rfl rfl rfl ?_ | refine WX.neq rfl rfl rfl ?_ | refine WX.leq rfl rfl rfl ?_ | refine WX.gtr rfl rfl rfl ?_ | refine WX.geq rfl rfl rfl ?_ | refine WX.add rfl rfl rfl (by omega) ?_ | refine WX.sub' rfl rfl rfl (by omega) ?_ | refine WX.eqPN rfl rfl rfl ?_ | refine WX.nePN rfl rfl rfl ?_ | refine WX.eqNN rfl rfl rfl ?_ | refine WX.neNN rfl rfl rfl ?_)
  | (refine I.un ?_; first | refine WX.notD rfl rfl ?_ | refine WX.not rfl rfl ?_)
  | (refine I.pk ?_; first | refine WX.pickT rfl rfl rfl ?_ | refine WX.pickF rfl rfl rfl ?_)
  | (refine I.bi ?_; first | refine WX.lenSl rfl (by assumption) rfl ?_ | refine WX.len rfl rfl ?_ | refine WX.lenS rfl rfl ?_ | refine WX.min rfl rfl rfl ?_ | refine WX.max rfl rfl rfl ?_)
  | (refine I.ix ?_; first | refine WX.idx rfl rfl (by assumption) (by assumption) rfl ?_ | refine WX.idxI rfl rfl (by assumption) (by omega) (by assumption) rfl ?_ | refine WX.idxP rfl rfl (by omega) rfl ?_)
  | (refine I.sl ?_; refine WX.slTo rfl rfl (by assumption) (by omega) rfl ?_)
  | (refine I.st ?_; first | (refine WX.store rfl rfl rfl rfl ?_; try simp only [List.set_cons_zero, List.set_cons_succ, Nat.reduceAdd]) | (refine WX.storeG rfl rfl rfl rfl rfl rfl ?_; try simp only [setAt, List.set_cons_zero, List.set_cons_succ, Nat.reduceAdd]; try rw [setAt_whole (by rfl)]))
  | (refine I.bd ?_; refine WX.build rfl rfl rfl ?_; try simp only [setAt, Value.cells, List.set_cons_zero, List.set_cons_succ]) | (refine I.bx ?_; refine WX.box rfl rfl rfl (fun _ => ?_)) | (refine I.al ?_; refine WX.alloc rfl (fun _ => ?_)) | (refine I.ex ?_; refine WX.extract rfl rfl rfl ?_))
      refine WX.call rfl new_ct rfl ?_
      rintro _ _ ⟨b, rfl, rfl⟩
      simp only [List.cons_append, List.nil_append]
      rw [colOf_zero to]
      repeat' (first
  | refine W.seq ?_ | refine W.region ?_ | refine WX.nil ?_ | refine D.seq ?_ | refine W.block ?_ | refine D.blk ?_ | refine W.skip ?_ | refine W.exit ?_ | refine W.ret ?_
  | refine WM.nil ?_ | refine WM.un ?_ | refine WM.an ?_ | refine WM.backU ?_ | refine WM.back ?_
  | refine D.blkX ?_ | refine D.blkY rfl ?_ | refine D.roundX ?_ | refine D.roundR ?_ | refine D.blkR ?_
  | (refine I.gd ?_; first | refine WX.gy rfl rfl ?_ | refine WX.gn rfl rfl rfl rfl ?_ | refine WX.gnN rfl rfl rfl ?_ | refine WX.gu rfl rfl rfl ?_ | refine WX.guN rfl rfl ?_ | refine WX.gT rfl rfl (by first | assumption | omega) ?_ | refine WX.gF rfl rfl (by first | assumption | omega) ?_ | refine WX.gS rfl rfl (fun _ => ?_) (fun _ => ?_))
  | (refine I.cond ?_; first | refine W.condT rfl ?_ | refine W.condF rfl ?_ | refine W.condP rfl (by first | assumption | omega) ?_ | refine W.condN rfl (by first | assumption | omega) ?_)
  | (refine I.mv ?_; refine WX.move rfl rfl ?_) | (refine I.as ?_; refine WX.assign rfl rfl ?_)
  | (refine I.nc ?_; first | refine WX.nilCheck rfl rfl ?_ | refine WX.nilE rfl (by assumption) (by assumption) rfl ?_)
  | (refine I.fa ?_; first | refine WX.fieldAddr rfl rfl ?_ | refine WX.fieldE rfl (by assumption) (by assumption) rfl ?_)
  | (refine I.ld ?_; first | refine WX.load rfl rfl rfl ?_ | refine WX.loadE rfl (by assumption) (by assumption) rfl rfl rfl ?_ | refine WX.loadA rfl rfl rfl rfl ?_ | refine WX.loadEW rfl (by assumption) (by assumption) rfl rfl ?_)
  | (refine I.bin ?_; first | refine WX.lss rfl rfl rfl ?_ | refine WX.eql rfl rfl rfl ?_ | refine WX.neq rfl rfl rfl ?_ | refine WX.leq rfl rfl rfl ?_ | refine WX.gtr rfl rfl rfl ?_ | refine WX.geq rfl rfl rfl ?_ | refine WX.add rfl rfl rfl (by omega) ?_ | refine WX.sub' rfl rfl rfl (by omega) ?_ | refine WX.eqPN rfl rfl rfl ?_ | refine WX.nePN rfl rfl rfl ?_ | refine WX.eqNN rfl rfl rfl ?_ | refine WX.neNN rfl rfl rfl ?_)
  | (refine I.un ?_; first | refine WX.notD rfl rfl ?_ | refine WX.not rfl rfl ?_)
  | (refine I.pk ?_; first | refine WX.pickT rfl rfl rfl ?_ | refine WX.pickF rfl rfl rfl ?_)
  | (refine I.bi ?_; first | refine WX.lenSl rfl (by assumption) rfl ?_ | refine WX.len rfl rfl ?_ | refine WX.lenS rfl rfl ?_ | refine WX.min rfl rfl rfl ?_ | refine WX.max rfl rfl rfl ?_)
  | (refine I.ix ?_; first | refine WX.idx rfl rfl (by assumption) (by assumption) rfl ?_ | refine WX.idxI rfl rfl (by assumption) (by omega) (by assumption) rfl ?_ | refine WX.idxP rfl rfl (by omega) rfl ?_)
  | (refine I.sl ?_; refine WX.slTo rfl rfl (by assumption) (by omega) rfl ?_)
  | (refine I.st ?_; first | (refine WX.store rfl rfl rfl rfl ?_; try simp only [List.set_cons_zero, List.set_cons_succ, Nat.reduceAdd]) | (refine WX.storeG rfl rfl rfl rfl rfl rfl ?_; try simp only [setAt, List.set_cons_zero, List.set_cons_succ, Nat.reduceAdd]; try rw [setAt_whole (by rfl)]))
  | (refine I.bd ?_; refine WX.build rfl rfl rfl ?_; try simp only [setAt, Value.cells, List.set_cons_zero, List.set_cons_succ]) | (refine I.bx ?_; refine WX.box rfl rfl rfl (fun _ => ?_)) | (refine I.al ?_; refine WX.alloc rfl (fun _ => ?_)) | (refine I.ex ?_; refine WX.extract rfl rfl rfl ?_) | (refine I.bin ?_; refine WX.rem rfl rfl rfl (by decide) ?_))
      refine W.as 10 (.int .i64 to) rfl (by rw [Int.tmod_eq_emod_of_nonneg (by omega), hto]) ?_
      refine W.loop (α := Nat) (fun i => i ≤ N)
        (fun i => [(0, .int .i64 d), (1, v), (5, u), (6, .pointer (some ⟨bn, 0, none⟩)), (9, .pointer (some ⟨b, 0, none⟩)), (10, .int .i64 to), (11, .int .i64 ((i : Int) + 1))])
        (fun i => [NB bn (cnF cs cs.length), hu, SB b d (colOf to i), h, R]) (fun i => N - i) 0 (Nat.zero_le _) (by repeat (first | exact Fsub.nil | refine Fsub.cons rfl ?_)) (Hsub.of_picks inferInstance) ?_
      intro i hi
      have hcn : cnF cs cs.length d = (N : Int) := by rw [hNe]; rfl
      by_cases hiN : i < N
      · repeat' (first
  | refine W.seq ?_ | refine W.region ?_ | refine WX.nil ?_ | refine D.seq ?_ | refine W.block ?_ | refine D.blk ?_ | refine W.skip ?_ | refine W.exit ?_ | refine W.ret ?_
  | refine WM.nil ?_ | refine WM.un ?_ | refine WM.an ?_ | refine WM.backU ?_ | refine WM.back ?_
  | refine D.blkX ?_ | refine D.blkY rfl ?_ | refine D.roundX ?_ | refine D.roundR ?_ | refine D.blkR ?_
  | (refine I.gd ?_; first | refine WX.gy rfl rfl ?_ | refine WX.gn rfl rfl rfl rfl ?_ | refine WX.gnN rfl rfl rfl ?_ | refine WX.gu rfl rfl rfl ?_ | refine WX.guN rfl rfl ?_ | refine WX.gT rfl rfl (by first | assumption | omega) ?_ | refine WX.gF rfl rfl (by first | assumption | omega) ?_ | refine WX.gS rfl rfl (fun _ => ?_) (fun _ => ?_))
  | (refine I.cond ?_; first | refine W.condT rfl ?_ | refine W.condF rfl ?_ | refine W.condP rfl (by first | assumption | omega) ?_ | refine W.condN rfl (by first | assumption | omega) ?_)
  | (refine I.mv ?_; refine WX.move rfl rfl ?_) | (refine I.as ?_; refine WX.assign rfl rfl ?_)
  | (refine I.nc ?_; first | refine WX.nilCheck rfl rfl ?_ | refine WX.nilE rfl (by assumption) (by assumption) rfl ?_)
  | (refine I.fa ?_; first | refine WX.fieldAddr rfl rfl ?_ | refine WX.fieldE rfl (by assumption) (by assumption) rfl ?_)
  | (refine I.ld ?_; first | refine WX.load rfl rfl rfl ?_ | refine WX.loadE rfl (by assumption) (by assumption) rfl rfl rfl ?_ | refine WX.loadA rfl rfl rfl rfl ?_ | refine WX.loadEW rfl (by assumption) (by assumption) rfl rfl ?_)
  | (refine I.bin ?_; first | refine WX.lss rfl rfl rfl ?_ | refine WX.eql rfl rfl rfl ?_ | refine WX.neq rfl rfl rfl ?_ | refine WX.leq rfl rfl rfl ?_ | refine WX.gtr rfl rfl rfl ?_ | refine WX.geq rfl rfl rfl ?_ | refine WX.add rfl rfl rfl (by omega) ?_ | refine WX.sub' rfl rfl rfl (by omega) ?_ | refine WX.eqPN rfl rfl rfl ?_ | refine WX.nePN rfl rfl rfl ?_ | refine WX.eqNN rfl rfl rfl ?_ | refine WX.neNN rfl rfl rfl ?_)
  | (refine I.un ?_; first | refine WX.notD rfl rfl ?_ | refine WX.not rfl rfl ?_)
  | (refine I.pk ?_; first | refine WX.pickT rfl rfl rfl ?_ | refine WX.pickF rfl rfl rfl ?_)
  | (refine I.bi ?_; first | refine WX.lenSl rfl (by assumption) rfl ?_ | refine WX.len rfl rfl ?_ | refine WX.lenS rfl rfl ?_ | refine WX.min rfl rfl rfl ?_ | refine WX.max rfl rfl rfl ?_)
  | (refine I.ix ?_; first | refine WX.idx rfl rfl (by assumption) (by assumption) rfl ?_ | refine WX.idxI rfl rfl (by assumption) (by omega) (by assumption) rfl ?_ | refine WX.idxP rfl rfl (by omega) rfl ?_)
  | (refine I.sl ?_; refine WX.slTo rfl rfl (by assumption) (by omega) rfl ?_)
  | (refine I.st ?_; first | (refine WX.store rfl rfl rfl rfl ?_; try simp only [List.set_cons_zero, List.set_cons_succ, Nat.reduceAdd]) | (refine WX.storeG rfl rfl rfl rfl rfl rfl ?_; try simp only [setAt, List.set_cons_zero, List.set_cons_succ, Nat.reduceAdd]; try rw [setAt_whole (by rfl)]))
  | (refine I.bd ?_; refine WX.build rfl rfl rfl ?_; try simp only [setAt, Value.cells, List.set_cons_zero, List.set_cons_succ]) | (refine I.bx ?_; refine WX.box rfl rfl rfl (fun _ => ?_)) | (refine I.al ?_; refine WX.alloc rfl (fun _ => ?_)) | (refine I.ex ?_; refine WX.extract rfl rfl rfl ?_) | (refine I.ld ?_; refine WX.load rfl (c3_get (r := cnF cs cs.length) hd0 hd3) rfl ?_))
        obtain ⟨e, he, e1, e2, e3⟩ := next_some (cs := cs) (k := cs.length) hot (i := i + 1) (by omega) (by omega)
        rw [Nat.add_sub_cancel] at he
        refine I.bs ?_
        refine WX.lit (ys := ([] : List Ent)) (vs := []) rfl rfl rfl rfl rfl rfl (by decide) rfl (fun v1 h1 hs1 => ?_)
        repeat' (first
  | refine W.seq ?_ | refine W.region ?_ | refine WX.nil ?_ | refine D.seq ?_ | refine W.block ?_ | refine D.blk ?_ | refine W.skip ?_ | refine W.exit ?_ | refine W.ret ?_
  | refine WM.nil ?_ | refine WM.un ?_ | refine WM.an ?_ | refine WM.backU ?_ | refine WM.back ?_
  | refine D.blkX ?_ | refine D.blkY rfl ?_ | refine D.roundX ?_ | refine D.roundR ?_ | refine D.blkR ?_
  | (refine I.gd ?_; first | refine WX.gy rfl rfl ?_ | refine WX.gn rfl rfl rfl rfl ?_ | refine WX.gnN rfl rfl rfl ?_ | refine WX.gu rfl rfl rfl ?_ | refine WX.guN rfl rfl ?_ | refine WX.gT rfl rfl (by first | assumption | omega) ?_ | refine WX.gF rfl rfl (by first | assumption | omega) ?_ | refine WX.gS rfl rfl (fun _ => ?_) (fun _ => ?_))
  | (refine I.cond ?_; first | refine W.condT rfl ?_ | refine W.condF rfl ?_ | refine W.condP rfl (by first | assumption | omega) ?_ | refine W.condN rfl (by first | assumption | omega) ?_)
  | (refine I.mv ?_; refine WX.move rfl rfl ?_) | (refine I.as ?_; refine WX.assign rfl rfl ?_)
  | (refine I.nc ?_; first | refine WX.nilCheck rfl rfl ?_ | refine WX.nilE rfl (by assumption) (by assumption) rfl ?_)
  | (refine I.fa ?_; first | refine WX.fieldAddr rfl rfl ?_ | refine WX.fieldE rfl (by assumption) (by assumption) rfl ?_)
  | (refine I.ld ?_; first | refine WX.load rfl rfl rfl ?_ | refine WX.loadE rfl (by assumption) (by assumption) rfl rfl rfl ?_ | refine WX.loadA rfl rfl rfl rfl ?_ | refine WX.loadEW rfl (by assumption) (by assumption) rfl rfl ?_)
  | (refine I.bin ?_; first | refine WX.lss rfl rfl rfl ?_ | refine WX.eql rfl rfl rfl ?_ | refine WX.neq rfl rfl rfl ?_ | refine WX.leq rfl rfl rfl ?_ | refine WX.gtr rfl rfl rfl ?_ | refine WX.geq rfl rfl rfl ?_ | refine WX.add rfl rfl rfl (by omega) ?_ | refine WX.sub' rfl rfl rfl (by omega) ?_ | refine WX.eqPN rfl rfl rfl ?_ | refine WX.nePN rfl rfl rfl ?_ | refine WX.eqNN rfl rfl rfl ?_ | refine WX.neNN rfl rfl rfl ?_)
  | (refine I.un ?_; first | refine WX.notD rfl rfl ?_ | refine WX.not rfl rfl ?_)
  | (refine I.pk ?_; first | refine WX.pickT rfl rfl rfl ?_ | refine WX.pickF rfl rfl rfl ?_)
  | (refine I.bi ?_; first | refine WX.lenSl rfl (by assumption) rfl ?_ | refine WX.len rfl rfl ?_ | refine WX.lenS rfl rfl ?_ | refine WX.min rfl rfl rfl ?_ | refine WX.max rfl rfl rfl ?_)
  | (refine I.ix ?_; first | refine WX.idx rfl rfl (by assumption) (by assumption) rfl ?_ | refine WX.idxI rfl rfl (by assumption) (by omega) (by assumption) rfl ?_ | refine WX.idxP rfl rfl (by omega) rfl ?_)
  | (refine I.sl ?_; refine WX.slTo rfl rfl (by assumption) (by omega) rfl ?_)
  | (refine I.st ?_; first | (refine WX.store rfl rfl rfl rfl ?_; try simp only [List.set_cons_zero, List.set_cons_succ, Nat.reduceAdd]) | (refine WX.storeG rfl rfl rfl rfl rfl rfl ?_; try simp only [setAt, List.set_cons_zero, List.set_cons_succ, Nat.reduceAdd]; try rw [setAt_whole (by rfl)]))
  | (refine I.bd ?_; refine WX.build rfl rfl rfl ?_; try simp only [setAt, Value.cells, List.set_cons_zero, List.set_cons_succ]) | (refine I.bx ?_; refine WX.box rfl rfl rfl (fun _ => ?_)) | (refine I.al ?_; refine WX.alloc rfl (fun _ => ?_)) | (refine I.ex ?_; refine WX.extract rfl rfl rfl ?_))
        refine WX.app rfl rfl hs1 hr rfl rfl (by decide) (by simp only [List.length_nil, hlen]; omega) rfl (fun v2 h2 hs2 => ?_)
        rw [List.nil_append] at hs2
        refine WX.call rfl (next_ct (dc := d) (r := colOf to i) hs2.rs (by simp only [colOf, if_true]; omega) hsq (by rw [hlen]; omega)) rfl ?_
        rintro v3 _ ⟨hv3, rfl⟩
        rw [he] at hv3
        clear he
        obtain rfl : v3 = .tuple #[.agg (Enc.enc e).toArray, .bool true] := hv3
        simp only [List.cons_append, List.nil_append]
        repeat' (first
  | refine W.seq ?_ | refine W.region ?_ | refine WX.nil ?_ | refine D.seq ?_ | refine W.block ?_ | refine D.blk ?_ | refine W.skip ?_ | refine W.exit ?_ | refine W.ret ?_
  | refine WM.nil ?_ | refine WM.un ?_ | refine WM.an ?_ | refine WM.backU ?_ | refine WM.back ?_
  | refine D.blkX ?_ | refine D.blkY rfl ?_ | refine D.roundX ?_ | refine D.roundR ?_ | refine D.blkR ?_
  | (refine I.gd ?_; first | refine WX.gy rfl rfl ?_ | refine WX.gn rfl rfl rfl rfl ?_ | refine WX.gnN rfl rfl rfl ?_ | refine WX.gu rfl rfl rfl ?_ | refine WX.guN rfl rfl ?_ | refine WX.gT rfl rfl (by first | assumption | omega) ?_ | refine WX.gF rfl rfl (by first | assumption | omega) ?_ | refine WX.gS rfl rfl (fun _ => ?_) (fun _ => ?_))
  | (refine I.cond ?_; first | refine W.condT rfl ?_ | refine W.condF rfl ?_ | refine W.condP rfl (by first | assumption | omega) ?_ | refine W.condN rfl (by first | assumption | omega) ?_)
  | (refine I.mv ?_; refine WX.move rfl rfl ?_) | (refine I.as ?_; refine WX.assign rfl rfl ?_)
  | (refine I.nc ?_; first | refine WX.nilCheck rfl rfl ?_ | refine WX.nilE rfl (by assumption) (by assumption) rfl ?_)
  | (refine I.fa ?_; first | refine WX.fieldAddr rfl rfl ?_ | refine WX.fieldE rfl (by assumption) (by assumption) rfl ?_)
  | (refine I.ld ?_; first | refine WX.load rfl rfl rfl ?_ | refine WX.loadE rfl (by assumption) (by assumption) rfl rfl rfl ?_ | refine WX.loadA rfl rfl rfl rfl ?_ | refine WX.loadEW rfl (by assumption) (by assumption) rfl rfl ?_)
  | (refine I.bin ?_; first | refine WX.lss rfl rfl rfl ?_ | refine WX.eql rfl rfl rfl ?_ | refine WX.neq rfl rfl rfl ?_ | refine WX.leq rfl rfl rfl ?_ | refine WX.gtr rfl rfl rfl ?_ | refine WX.geq rfl rfl rfl ?_ | refine WX.add rfl rfl rfl (by omega) ?_ | refine WX.sub' rfl rfl rfl (by omega) ?_ | refine WX.eqPN rfl rfl rfl ?_ | refine WX.nePN rfl rfl rfl ?_ | refine WX.eqNN rfl rfl rfl ?_ | refine WX.neNN rfl rfl rfl ?_)
  | (refine I.un ?_; first | refine WX.notD rfl rfl ?_ | refine WX.not rfl rfl ?_)
  | (refine I.pk ?_; first | refine WX.pickT rfl rfl rfl ?_ | refine WX.pickF rfl rfl rfl ?_)
  | (refine I.bi ?_; first | refine WX.lenSl rfl (by assumption) rfl ?_ | refine WX.len rfl rfl ?_ | refine WX.lenS rfl rfl ?_ | refine WX.min rfl rfl rfl ?_ | refine WX.max rfl rfl rfl ?_)
  | (refine I.ix ?_; first | refine WX.idx rfl rfl (by assumption) (by assumption) rfl ?_ | refine WX.idxI rfl rfl (by assumption) (by omega) (by assumption) rfl ?_ | refine WX.idxP rfl rfl (by omega) rfl ?_)
  | (refine I.sl ?_; refine WX.slTo rfl rfl (by assumption) (by omega) rfl ?_)
  | (refine I.st ?_; first | (refine WX.store rfl rfl rfl rfl ?_; try simp only [List.set_cons_zero, List.set_cons_succ, Nat.reduceAdd]) | (refine WX.storeG rfl rfl rfl rfl rfl rfl ?_; try simp only [setAt, List.set_cons_zero, List.set_cons_succ, Nat.reduceAdd]; try rw [setAt_whole (by rfl)]))
  | (refine I.bd ?_; refine WX.build rfl rfl rfl ?_; try simp only [setAt, Value.cells, List.set_cons_zero, List.set_cons_succ]) | (refine I.bx ?_; refine WX.box rfl rfl rfl (fun _ => ?_)) | (refine I.al ?_; refine WX.alloc rfl (fun _ => ?_)) | (refine I.ex ?_; refine WX.extract rfl rfl rfl ?_))
        try rw [setAt_whole (by rfl)]
        repeat' (first
  | refine W.seq ?_ | refine W.region ?_ | refine WX.nil ?_ | refine D.seq ?_ | refine W.block ?_ | refine D.blk ?_ | refine W.skip ?_ | refine W.exit ?_ | refine W.ret ?_
  | refine WM.nil ?_ | refine WM.un ?_ | refine WM.an ?_ | refine WM.backU ?_ | refine WM.back ?_
  | refine D.blkX ?_ | refine D.blkY rfl ?_ | refine D.roundX ?_ | refine D.roundR ?_ | refine D.blkR ?_
  | (refine I.gd ?_; first | refine WX.gy rfl rfl ?_ | refine WX.gn rfl rfl rfl rfl ?_ | refine WX.gnN rfl rfl rfl ?_ | refine WX.gu rfl rfl rfl ?_ | refine WX.guN rfl rfl ?_ | refine WX.gT rfl rfl (by first | assumption | omega) ?_ | refine WX.gF rfl rfl (by first | assumption | omega) ?_ | refine WX.gS rfl rfl (fun _ => ?_) (fun _ => ?_))
  | (refine I.cond ?_; first | refine W.condT rfl ?_ | refine W.condF rfl ?_ | refine W.condP rfl (by first | assumption | omega) ?_ | refine W.condN rfl (by first | assumption | omega) ?_)
  | (refine I.mv ?_; refine WX.move rfl rfl ?_) | (refine I.as ?_; refine WX.assign rfl rfl ?_)
  | (refine I.nc ?_; first | refine WX.nilCheck rfl rfl ?_ | refine WX.nilE rfl (by assumption) (by assumption) rfl ?_)
  | (refine I.fa ?_; first | refine WX.fieldAddr rfl rfl ?_ | refine WX.fieldE rfl (by assumption) (by assumption) rfl ?_)
  | (refine I.ld ?_; first | refine WX.load rfl rfl rfl ?_ | refine WX.loadE rfl (by assumption) (by assumption) rfl rfl rfl ?_ | refine WX.loadA rfl rfl rfl rfl ?_ | refine WX.loadEW rfl (by assumption) (by assumption) rfl rfl ?_)
  | (refine I.bin ?_; first | refine WX.lss rfl rfl rfl ?_ | refine WX.eql rfl rfl rfl ?_ | refine WX.neq rfl rfl rfl ?_ | refine WX.leq rfl rfl rfl ?_ | refine WX.gtr rfl rfl rfl ?_ | refine WX.geq rfl rfl rfl ?_ | refine WX.add rfl rfl rfl (by omega) ?_ | refine WX.sub' rfl rfl rfl (by omega) ?_ | refine WX.eqPN rfl rfl rfl ?_ | refine WX.nePN rfl rfl rfl ?_ | refine WX.eqNN rfl rfl rfl ?_ | refine WX.neNN rfl rfl rfl ?_)
  | (refine I.un ?_; first | refine WX.notD rfl rfl ?_ | refine WX.not rfl rfl ?_)
  | (refine I.pk ?_; first | refine WX.pickT rfl rfl rfl ?_ | refine WX.pickF rfl rfl rfl ?_)
  | (refine I.bi ?_; first | refine WX.lenSl rfl (by assumption) rfl ?_ | refine WX.len rfl rfl ?_ | refine WX.lenS rfl rfl ?_ | refine WX.min rfl rfl rfl ?_ | refine WX.max rfl rfl rfl ?_)
  | (refine I.ix ?_; first | refine WX.idx rfl rfl (by assumption) (by assumption) rfl ?_ | refine WX.idxI rfl rfl (by assumption) (by omega) (by assumption) rfl ?_ | refine WX.idxP rfl rfl (by omega) rfl ?_)
  | (refine I.sl ?_; refine WX.slTo rfl rfl (by assumption) (by omega) rfl ?_)
  | (refine I.st ?_; first | (refine WX.store rfl rfl rfl rfl ?_; try simp only [List.set_cons_zero, List.set_cons_succ, Nat.reduceAdd]) | (refine WX.storeG rfl rfl rfl rfl rfl rfl ?_; try simp only [setAt, List.set_cons_zero, List.set_cons_succ, Nat.reduceAdd]; try rw [setAt_whole (by rfl)]))
  | (refine I.bd ?_; refine WX.build rfl rfl rfl ?_; try simp only [setAt, Value.cells, List.set_cons_zero, List.set_cons_succ]) | (refine I.bx ?_; refine WX.box rfl rfl rfl (fun _ => ?_)) | (refine I.al ?_; refine WX.alloc rfl (fun _ => ?_)) | (refine I.ex ?_; refine WX.extract rfl rfl rfl ?_) | (refine I.bin ?_; refine WX.neqA (b := true) rfl rfl (cell3 e1 e2 e3) rfl ?_))
        have hcond : isOther d to ∧ colOf to i to < (i : Int) + 1 := ⟨hot, by simp only [colOf, if_true]; omega⟩
        refine WX.call rfl (heard_ct (dc := d) (r := colOf to i)) rfl ?_
        rintro v4 H4 ⟨hv4, hH4⟩
        rw [decide_eq_true hcond] at hv4
        rw [if_pos hcond, show (i : Int) + 1 = ((i + 1 : Nat) : Int) by omega, colOf_upd] at hH4
        subst hv4; subst hH4
        simp only [List.cons_append, List.nil_append]
        repeat' (first
  | refine W.seq ?_ | refine W.region ?_ | refine WX.nil ?_ | refine D.seq ?_ | refine W.block ?_ | refine D.blk ?_ | refine W.skip ?_ | refine W.exit ?_ | refine W.ret ?_
  | refine WM.nil ?_ | refine WM.un ?_ | refine WM.an ?_ | refine WM.backU ?_ | refine WM.back ?_
  | refine D.blkX ?_ | refine D.blkY rfl ?_ | refine D.roundX ?_ | refine D.roundR ?_ | refine D.blkR ?_
  | (refine I.gd ?_; first | refine WX.gy rfl rfl ?_ | refine WX.gn rfl rfl rfl rfl ?_ | refine WX.gnN rfl rfl rfl ?_ | refine WX.gu rfl rfl rfl ?_ | refine WX.guN rfl rfl ?_ | refine WX.gT rfl rfl (by first | assumption | omega) ?_ | refine WX.gF rfl rfl (by first | assumption | omega) ?_ | refine WX.gS rfl rfl (fun _ => ?_) (fun _ => ?_))
  | (refine I.cond ?_; first | refine W.condT rfl ?_ | refine W.condF rfl ?_ | refine W.condP rfl (by first | assumption | omega) ?_ | refine W.condN rfl (by first | assumption | omega) ?_)
  | (refine I.mv ?_; refine WX.move rfl rfl ?_) | (refine I.as ?_; refine WX.assign rfl rfl ?_)
  | (refine I.nc ?_; first | refine WX.nilCheck rfl rfl ?_ | refine WX.nilE rfl (by assumption) (by assumption) rfl ?_)
  | (refine I.fa ?_; first | refine WX.fieldAddr rfl rfl ?_ | refine WX.fieldE rfl (by assumption) (by assumption) rfl ?_)
  | (refine I.ld ?_; first | refine WX.load rfl rfl rfl ?_ | refine WX.loadE rfl (by assumption) (by assumption) rfl rfl rfl ?_ | refine WX.loadA rfl rfl rfl rfl ?_ | refine WX.loadEW rfl (by assumption) (by assumption) rfl rfl ?_)
  | (refine I.bin ?_; first | refine WX.lss rfl rfl rfl ?_ | refine WX.eql rfl rfl rfl ?_ | refine WX.neq rfl rfl rfl ?_ | refine WX.leq rfl rfl rfl ?_ | refine WX.gtr rfl rfl rfl ?_ | refine WX.geq rfl rfl rfl ?_ | refine WX.add rfl rfl rfl (by omega) ?_ | refine WX.sub' rfl rfl rfl (by omega) ?_ | refine WX.eqPN rfl rfl rfl ?_ | refine WX.nePN rfl rfl rfl ?_ | refine WX.eqNN rfl rfl rfl ?_ | refine WX.neNN rfl rfl rfl ?_)
  | (refine I.un ?_; first | refine WX.notD rfl rfl ?_ | refine WX.not rfl rfl ?_)
  | (refine I.pk ?_; first | refine WX.pickT rfl rfl rfl ?_ | refine WX.pickF rfl rfl rfl ?_)
  | (refine I.bi ?_; first | refine WX.lenSl rfl (by assumption) rfl ?_ | refine WX.len rfl rfl ?_ | refine WX.lenS rfl rfl ?_ | refine WX.min rfl rfl rfl ?_ | refine WX.max rfl rfl rfl ?_)
  | (refine I.ix ?_; first | refine WX.idx rfl rfl (by assumption) (by assumption) rfl ?_ | refine WX.idxI rfl rfl (by assumption) (by omega) (by assumption) rfl ?_ | refine WX.idxP rfl rfl (by omega) rfl ?_)
  | (refine I.sl ?_; refine WX.slTo rfl rfl (by assumption) (by omega) rfl ?_)
  | (refine I.st ?_; first | (refine WX.store rfl rfl rfl rfl ?_; try simp only [List.set_cons_zero, List.set_cons_succ, Nat.reduceAdd]) | (refine WX.storeG rfl rfl rfl rfl rfl rfl ?_; try simp only [setAt, List.set_cons_zero, List.set_cons_succ, Nat.reduceAdd]; try rw [setAt_whole (by rfl)]))
  | (refine I.bd ?_; refine WX.build rfl rfl rfl ?_; try simp only [setAt, Value.cells, List.set_cons_zero, List.set_cons_succ]) | (refine I.bx ?_; refine WX.box rfl rfl rfl (fun _ => ?_)) | (refine I.al ?_; refine WX.alloc rfl (fun _ => ?_)) | (refine I.ex ?_; refine WX.extract rfl rfl rfl ?_))
        have hre := reached_ct (b := b) (dc := d) (x := to) (r := colOf to (i + 1))
        rw [if_pos hot, show colOf to (i + 1) to = (i : Int) + 1 by simp only [colOf, if_true]; omega] at hre
        refine WX.callQ rfl hre rfl ?_
        repeat' (first
  | refine W.seq ?_ | refine W.region ?_ | refine WX.nil ?_ | refine D.seq ?_ | refine W.block ?_ | refine D.blk ?_ | refine W.skip ?_ | refine W.exit ?_ | refine W.ret ?_
  | refine WM.nil ?_ | refine WM.un ?_ | refine WM.an ?_ | refine WM.backU ?_ | refine WM.back ?_
  | refine D.blkX ?_ | refine D.blkY rfl ?_ | refine D.roundX ?_ | refine D.roundR ?_ | refine D.blkR ?_
  | (refine I.gd ?_; first | refine WX.gy rfl rfl ?_ | refine WX.gn rfl rfl rfl rfl ?_ | refine WX.gnN rfl rfl rfl ?_ | refine WX.gu rfl rfl rfl ?_ | refine WX.guN rfl rfl ?_ | refine WX.gT rfl rfl (by first | assumption | omega) ?_ | refine WX.gF rfl rfl (by first | assumption | omega) ?_ | refine WX.gS rfl rfl (fun _ => ?_) (fun _ => ?_))
  | (refine I.cond ?_; first | refine W.condT rfl ?_ | refine W.condF rfl ?_ | refine W.condP rfl (by first | assumption | omega) ?_ | refine W.condN rfl (by first | assumption | omega) ?_)
  | (refine I.mv ?_; refine WX.move rfl rfl ?_) | (refine I.as ?_; refine WX.assign rfl rfl ?_)
  | (refine I.nc ?_; first | refine WX.nilCheck rfl rfl ?_ | refine WX.nilE rfl (by assumption) (by assumption) rfl ?_)
  | (refine I.fa ?_; first | refine WX.fieldAddr rfl rfl ?_ | refine WX.fieldE rfl (by assumption) (by assumption) rfl ?_)
  | (refine I.ld ?_; first | refine WX.load rfl rfl rfl ?_ | refine WX.loadE rfl (by assumption) (by assumption) rfl rfl rfl ?_ | refine WX.loadA rfl rfl rfl rfl ?_ | refine WX.loadEW rfl (by assumption) (by assumption) rfl rfl ?_)
  | (refine I.bin ?_; first | refine WX.lss rfl rfl rfl ?_ | refine WX.eql rfl rfl rfl ?_ | refine WX.neq rfl rfl rfl ?_ | refine WX.leq rfl rfl rfl ?_ | refine WX.gtr rfl rfl rfl ?_ | refine WX.geq rfl rfl rfl ?_ | refine WX.add rfl rfl rfl (by omega) ?_ | refine WX.sub' rfl rfl rfl (by omega) ?_ | refine WX.eqPN rfl rfl rfl ?_ | refine WX.nePN rfl rfl rfl ?_ | refine WX.eqNN rfl rfl rfl ?_ | refine WX.neNN rfl rfl rfl ?_)
  | (refine I.un ?_; first | refine WX.notD rfl rfl ?_ | refine WX.not rfl rfl ?_)
  | (refine I.pk ?_; first | refine WX.pickT rfl rfl rfl ?_ | refine WX.pickF rfl rfl rfl ?_)
  | (refine I.bi ?_; first | refine WX.lenSl rfl (by assumption) rfl ?_ | refine WX.len rfl rfl ?_ | refine WX.lenS rfl rfl ?_ | refine WX.min rfl rfl rfl ?_ | refine WX.max rfl rfl rfl ?_)
  | (refine I.ix ?_; first | refine WX.idx rfl rfl (by assumption) (by assumption) rfl ?_ | refine WX.idxI rfl rfl (by assumption) (by omega) (by assumption) rfl ?_ | refine WX.idxP rfl rfl (by omega) rfl ?_)
  | (refine I.sl ?_; refine WX.slTo rfl rfl (by assumption) (by omega) rfl ?_)
  | (refine I.st ?_; first | (refine WX.store rfl rfl rfl rfl ?_; try simp only [List.set_cons_zero, List.set_cons_succ, Nat.reduceAdd]) | (refine WX.storeG rfl rfl rfl rfl rfl rfl ?_; try simp only [setAt, List.set_cons_zero, List.set_cons_succ, Nat.reduceAdd]; try rw [setAt_whole (by rfl)]))
  | (refine I.bd ?_; refine WX.build rfl rfl rfl ?_; try simp only [setAt, Value.cells, List.set_cons_zero, List.set_cons_succ]) | (refine I.bx ?_; refine WX.box rfl rfl rfl (fun _ => ?_)) | (refine I.al ?_; refine WX.alloc rfl (fun _ => ?_)) | (refine I.ex ?_; refine WX.extract rfl rfl rfl ?_))
        refine D.as 11 (.int .i64 (((i + 1 : Nat) : Int) + 1)) rfl (by congr 1) ?_
        exact D.round (i + 1) (by omega) (by omega) (by repeat (first | exact Fsub.nil | refine Fsub.cons rfl ?_)) (Hsub.of_picks inferInstance)
      · obtain rfl : i = N := by omega
        have hro := reached_ct (b := b) (dc := d) (x := (d + 2) % 3) (r := colOf to i)
        rw [show (if isOther d ((d + 2) % 3) then colOf to i ((d + 2) % 3) else 0) = 0 by unfold colOf; rw [if_neg (show ¬ (d + 2) % 3 = to by omega)]; simp] at hro
        have hrd := reached_ct (b := b) (dc := d) (x := d) (r := colOf to i)
        rw [if_neg (fun h => h.2.2 rfl)] at hrd
        have hle := least_ct (b := b) (dc := d) (m := 3) (r := colOf to i) (Nat.le_refl _)
        rw [show (leastK d (colOf to i) 3).1 = 0 by rw [hto]; exact least_col hd0 hd3] at hle
        repeat' (first
  | refine W.seq ?_ | refine W.region ?_ | refine WX.nil ?_ | refine D.seq ?_ | refine W.block ?_ | refine D.blk ?_ | refine W.skip ?_ | refine W.exit ?_ | refine W.ret ?_
  | refine WM.nil ?_ | refine WM.un ?_ | refine WM.an ?_ | refine WM.backU ?_ | refine WM.back ?_
  | refine D.blkX ?_ | refine D.blkY rfl ?_ | refine D.roundX ?_ | refine D.roundR ?_ | refine D.blkR ?_
  | (refine I.gd ?_; first | refine WX.gy rfl rfl ?_ | refine WX.gn rfl rfl rfl rfl ?_ | refine WX.gnN rfl rfl rfl ?_ | refine WX.gu rfl rfl rfl ?_ | refine WX.guN rfl rfl ?_ | refine WX.gT rfl rfl (by first | assumption | omega) ?_ | refine WX.gF rfl rfl (by first | assumption | omega) ?_ | refine WX.gS rfl rfl (fun _ => ?_) (fun _ => ?_))
  | (refine I.cond ?_; first | refine W.condT rfl ?_ | refine W.condF rfl ?_ | refine W.condP rfl (by first | assumption | omega) ?_ | refine W.condN rfl (by first | assumption | omega) ?_)
  | (refine I.mv ?_; refine WX.move rfl rfl ?_) | (refine I.as ?_; refine WX.assign rfl rfl ?_)
  | (refine I.nc ?_; first | refine WX.nilCheck rfl rfl ?_ | refine WX.nilE rfl (by assumption) (by assumption) rfl ?_)
  | (refine I.fa ?_; first | refine WX.fieldAddr rfl rfl ?_ | refine WX.fieldE rfl (by assumption) (by assumption) rfl ?_)
  | (refine I.ld ?_; first | refine WX.load rfl rfl rfl ?_ | refine WX.loadE rfl (by assumption) (by assumption) rfl rfl rfl ?_ | refine WX.loadA rfl rfl rfl rfl ?_ | refine WX.loadEW rfl (by assumption) (by assumption) rfl rfl ?_)
  | (refine I.bin ?_; first | refine WX.lss rfl rfl rfl ?_ | refine WX.eql rfl rfl rfl ?_ | refine WX.neq rfl rfl rfl ?_ | refine WX.leq rfl rfl rfl ?_ | refine WX.gtr rfl rfl rfl ?_ | refine WX.geq rfl rfl rfl ?_ | refine WX.add rfl rfl rfl (by omega) ?_ | refine WX.sub' rfl rfl rfl (by omega) ?_ | refine WX.eqPN rfl rfl rfl ?_ | refine WX.nePN rfl rfl rfl ?_ | refine WX.eqNN rfl rfl rfl ?_ | refine WX.neNN rfl rfl rfl ?_)
  | (refine I.un ?_; first | refine WX.notD rfl rfl ?_ | refine WX.not rfl rfl ?_)
  | (refine I.pk ?_; first | refine WX.pickT rfl rfl rfl ?_ | refine WX.pickF rfl rfl rfl ?_)
  | (refine I.bi ?_; first | refine WX.lenSl rfl (by assumption) rfl ?_ | refine WX.len rfl rfl ?_ | refine WX.lenS rfl rfl ?_ | refine WX.min rfl rfl rfl ?_ | refine WX.max rfl rfl rfl ?_)
  | (refine I.ix ?_; first | refine WX.idx rfl rfl (by assumption) (by assumption) rfl ?_ | refine WX.idxI rfl rfl (by assumption) (by omega) (by assumption) rfl ?_ | refine WX.idxP rfl rfl (by omega) rfl ?_)
  | (refine I.sl ?_; refine WX.slTo rfl rfl (by assumption) (by omega) rfl ?_)
  | (refine I.st ?_; first | (refine WX.store rfl rfl rfl rfl ?_; try simp only [List.set_cons_zero, List.set_cons_succ, Nat.reduceAdd]) | (refine WX.storeG rfl rfl rfl rfl rfl rfl ?_; try simp only [setAt, List.set_cons_zero, List.set_cons_succ, Nat.reduceAdd]; try rw [setAt_whole (by rfl)]))
  | (refine I.bd ?_; refine WX.build rfl rfl rfl ?_; try simp only [setAt, Value.cells, List.set_cons_zero, List.set_cons_succ]) | (refine I.bx ?_; refine WX.box rfl rfl rfl (fun _ => ?_)) | (refine I.al ?_; refine WX.alloc rfl (fun _ => ?_)) | (refine I.ex ?_; refine WX.extract rfl rfl rfl ?_) | (refine I.ld ?_; refine WX.load rfl (c3_get (r := cnF cs cs.length) hd0 hd3) rfl ?_))
        refine WX.call rfl (next_ct (dc := d) (r := colOf to i) hr (by simp only [colOf, if_true]; omega) hsq (by rw [hlen]; omega)) rfl ?_
        rintro v3 _ ⟨hv3, rfl⟩
        rw [hNe, next_none] at hv3
        obtain rfl : v3 = .tuple #[.agg (Enc.enc ({ dc := 0, seq := 0 } : Ent)).toArray, .bool false] := hv3
        simp only [List.cons_append, List.nil_append]
        repeat' (first
  | refine W.seq ?_ | refine W.region ?_ | refine WX.nil ?_ | refine D.seq ?_ | refine W.block ?_ | refine D.blk ?_ | refine W.skip ?_ | refine W.exit ?_ | refine W.ret ?_
  | refine WM.nil ?_ | refine WM.un ?_ | refine WM.an ?_ | refine WM.backU ?_ | refine WM.back ?_
  | refine D.blkX ?_ | refine D.blkY rfl ?_ | refine D.roundX ?_ | refine D.roundR ?_ | refine D.blkR ?_
  | (refine I.gd ?_; first | refine WX.gy rfl rfl ?_ | refine WX.gn rfl rfl rfl rfl ?_ | refine WX.gnN rfl rfl rfl ?_ | refine WX.gu rfl rfl rfl ?_ | refine WX.guN rfl rfl ?_ | refine WX.gT rfl rfl (by first | assumption | omega) ?_ | refine WX.gF rfl rfl (by first | assumption | omega) ?_ | refine WX.gS rfl rfl (fun _ => ?_) (fun _ => ?_))
  | (refine I.cond ?_; first | refine W.condT rfl ?_ | refine W.condF rfl ?_ | refine W.condP rfl (by first | assumption | omega) ?_ | refine W.condN rfl (by first | assumption | omega) ?_)
  | (refine I.mv ?_; refine WX.move rfl rfl ?_) | (refine I.as ?_; refine WX.assign rfl rfl ?_)
  | (refine I.nc ?_; first | refine WX.nilCheck rfl rfl ?_ | refine WX.nilE rfl (by assumption) (by assumption) rfl ?_)
  | (refine I.fa ?_; first | refine WX.fieldAddr rfl rfl ?_ | refine WX.fieldE rfl (by assumption) (by assumption) rfl ?_)
  | (refine I.ld ?_; first | refine WX.load rfl rfl rfl ?_ | refine WX.loadE rfl (by assumption) (by assumption) rfl rfl rfl ?_ | refine WX.loadA rfl rfl rfl rfl ?_ | refine WX.loadEW rfl (by assumption) (by assumption) rfl rfl ?_)
  | (refine I.bin ?_; first | refine WX.lss rfl rfl rfl ?_ | refine WX.eql rfl rfl rfl ?_ | refine WX.neq rfl rfl rfl ?_ | refine WX.leq rfl rfl rfl ?_ | refine WX.gtr rfl rfl rfl ?_ | refine WX.geq rfl rfl rfl ?_ | refine WX.add rfl rfl rfl (by omega) ?_ | refine WX.sub' rfl rfl rfl (by omega) ?_ | refine WX.eqPN rfl rfl rfl ?_ | refine WX.nePN rfl rfl rfl ?_ | refine WX.eqNN rfl rfl rfl ?_ | refine WX.neNN rfl rfl rfl ?_)
  | (refine I.un ?_; first | refine WX.notD rfl rfl ?_ | refine WX.not rfl rfl ?_)
  | (refine I.pk ?_; first | refine WX.pickT rfl rfl rfl ?_ | refine WX.pickF rfl rfl rfl ?_)
  | (refine I.bi ?_; first | refine WX.lenSl rfl (by assumption) rfl ?_ | refine WX.len rfl rfl ?_ | refine WX.lenS rfl rfl ?_ | refine WX.min rfl rfl rfl ?_ | refine WX.max rfl rfl rfl ?_)
  | (refine I.ix ?_; first | refine WX.idx rfl rfl (by assumption) (by assumption) rfl ?_ | refine WX.idxI rfl rfl (by assumption) (by omega) (by assumption) rfl ?_ | refine WX.idxP rfl rfl (by omega) rfl ?_)
  | (refine I.sl ?_; refine WX.slTo rfl rfl (by assumption) (by omega) rfl ?_)
  | (refine I.st ?_; first | (refine WX.store rfl rfl rfl rfl ?_; try simp only [List.set_cons_zero, List.set_cons_succ, Nat.reduceAdd]) | (refine WX.storeG rfl rfl rfl rfl rfl rfl ?_; try simp only [setAt, List.set_cons_zero, List.set_cons_succ, Nat.reduceAdd]; try rw [setAt_whole (by rfl)]))
  | (refine I.bd ?_; refine WX.build rfl rfl rfl ?_; try simp only [setAt, Value.cells, List.set_cons_zero, List.set_cons_succ]) | (refine I.bx ?_; refine WX.box rfl rfl rfl (fun _ => ?_)) | (refine I.al ?_; refine WX.alloc rfl (fun _ => ?_)) | (refine I.ex ?_; refine WX.extract rfl rfl rfl ?_))
        try rw [setAt_whole (by rfl)]
        repeat' (first
  | refine W.seq ?_ | refine W.region ?_ | refine WX.nil ?_ | refine D.seq ?_ | refine W.block ?_ | refine D.blk ?_ | refine W.skip ?_ | refine W.exit ?_ | refine W.ret ?_
  | refine WM.nil ?_ | refine WM.un ?_ | refine WM.an ?_ | refine WM.backU ?_ | refine WM.back ?_
  | refine D.blkX ?_ | refine D.blkY rfl ?_ | refine D.roundX ?_ | refine D.roundR ?_ | refine D.blkR ?_
  | (refine I.gd ?_; first | refine WX.gy rfl rfl ?_ | refine WX.gn rfl rfl rfl rfl ?_ | refine WX.gnN rfl rfl rfl ?_ | refine WX.gu rfl rfl rfl ?_ | refine WX.guN rfl rfl ?_ | refine WX.gT rfl rfl (by first | assumption | omega) ?_ | refine WX.gF rfl rfl (by first | assumption | omega) ?_ | refine WX.gS rfl rfl (fun _ => ?_) (fun _ => ?_))
  | (refine I.cond ?_; first | refine W.condT rfl ?_ | refine W.condF rfl ?_ | refine W.condP rfl (by first | assumption | omega) ?_ | refine W.condN rfl (by first | assumption | omega) ?_)
  | (refine I.mv ?_; refine WX.move rfl rfl ?_) | (refine I.as ?_; refine WX.assign rfl rfl ?_)
  | (refine I.nc ?_; first | refine WX.nilCheck rfl rfl ?_ | refine WX.nilE rfl (by assumption) (by assumption) rfl ?_)
  | (refine I.fa ?_; first | refine WX.fieldAddr rfl rfl ?_ | refine WX.fieldE rfl (by assumption) (by assumption) rfl ?_)
  | (refine I.ld ?_; first | refine WX.load rfl rfl rfl ?_ | refine WX.loadE rfl (by assumption) (by assumption) rfl rfl rfl ?_ | refine WX.loadA rfl rfl rfl rfl ?_ | refine WX.loadEW rfl (by assumption) (by assumption) rfl rfl ?_)
  | (refine I.bin ?_; first | refine WX.lss rfl rfl rfl ?_ | refine WX.eql rfl rfl rfl ?_ | refine WX.neq rfl rfl rfl ?_ | refine WX.leq rfl rfl rfl ?_ | refine WX.gtr rfl rfl rfl ?_ | refine WX.geq rfl rfl rfl ?_ | refine WX.add rfl rfl rfl (by omega) ?_ | refine WX.sub' rfl rfl rfl (by omega) ?_ | refine WX.eqPN rfl rfl rfl ?_ | refine WX.nePN rfl rfl rfl ?_ | refine WX.eqNN rfl rfl rfl ?_ | refine WX.neNN rfl rfl rfl ?_)
  | (refine I.un ?_; first | refine WX.notD rfl rfl ?_ | refine WX.not rfl rfl ?_)
  | (refine I.pk ?_; first | refine WX.pickT rfl rfl rfl ?_ | refine WX.pickF rfl rfl rfl ?_)
  | (refine I.bi ?_; first | refine WX.lenSl rfl (by assumption) rfl ?_ | refine WX.len rfl rfl ?_ | refine WX.lenS rfl rfl ?_ | refine WX.min rfl rfl rfl ?_ | refine WX.max rfl rfl rfl ?_)
  | (refine I.ix ?_; first | refine WX.idx rfl rfl (by assumption) (by assumption) rfl ?_ | refine WX.idxI rfl rfl (by assumption) (by omega) (by assumption) rfl ?_ | refine WX.idxP rfl rfl (by omega) rfl ?_)
  | (refine I.sl ?_; refine WX.slTo rfl rfl (by assumption) (by omega) rfl ?_)
  | (refine I.st ?_; first | (refine WX.store rfl rfl rfl rfl ?_; try simp only [List.set_cons_zero, List.set_cons_succ, Nat.reduceAdd]) | (refine WX.storeG rfl rfl rfl rfl rfl rfl ?_; try simp only [setAt, List.set_cons_zero, List.set_cons_succ, Nat.reduceAdd]; try rw [setAt_whole (by rfl)]))
  | (refine I.bd ?_; refine WX.build rfl rfl rfl ?_; try simp only [setAt, Value.cells, List.set_cons_zero, List.set_cons_succ]) | (refine I.bx ?_; refine WX.box rfl rfl rfl (fun _ => ?_)) | (refine I.al ?_; refine WX.alloc rfl (fun _ => ?_)) | (refine I.ex ?_; refine WX.extract rfl rfl rfl ?_) | (refine I.bin ?_; refine WX.rem rfl rfl rfl (by decide) ?_))
        refine WX.as 114 (.int .i64 ((d + 2) % 3)) rfl (by rw [Int.tmod_eq_emod_of_nonneg (by omega)]) ?_
        refine WX.callQ rfl hro rfl ?_
        repeat' (first
  | refine W.seq ?_ | refine W.region ?_ | refine WX.nil ?_ | refine D.seq ?_ | refine W.block ?_ | refine D.blk ?_ | refine W.skip ?_ | refine W.exit ?_ | refine W.ret ?_
  | refine WM.nil ?_ | refine WM.un ?_ | refine WM.an ?_ | refine WM.backU ?_ | refine WM.back ?_
  | refine D.blkX ?_ | refine D.blkY rfl ?_ | refine D.roundX ?_ | refine D.roundR ?_ | refine D.blkR ?_
  | (refine I.gd ?_; first | refine WX.gy rfl rfl ?_ | refine WX.gn rfl rfl rfl rfl ?_ | refine WX.gnN rfl rfl rfl ?_ | refine WX.gu rfl rfl rfl ?_ | refine WX.guN rfl rfl ?_ | refine WX.gT rfl rfl (by first | assumption | omega) ?_ | refine WX.gF rfl rfl (by first | assumption | omega) ?_ | refine WX.gS rfl rfl (fun _ => ?_) (fun _ => ?_))
  | (refine I.cond ?_; first | refine W.condT rfl ?_ | refine W.condF rfl ?_ | refine W.condP rfl (by first | assumption | omega) ?_ | refine W.condN rfl (by first | assumption | omega) ?_)
  | (refine I.mv ?_; refine WX.move rfl rfl ?_) | (refine I.as ?_; refine WX.assign rfl rfl ?_)
  | (refine I.nc ?_; first | refine WX.nilCheck rfl rfl ?_ | refine WX.nilE rfl (by assumption) (by assumption) rfl ?_)
  | (refine I.fa ?_; first | refine WX.fieldAddr rfl rfl ?_ | refine WX.fieldE rfl (by assumption) (by assumption) rfl ?_)
  | (refine I.ld ?_; first | refine WX.load rfl rfl rfl ?_ | refine WX.loadE rfl (by assumption) (by assumption) rfl rfl rfl ?_ | refine WX.loadA rfl rfl rfl rfl ?_ | refine WX.loadEW rfl (by assumption) (by assumption) rfl rfl ?_)
  | (refine I.bin ?_; first | refine WX.lss rfl rfl rfl ?_ | refine WX.eql rfl rfl rfl ?_ | refine WX.neq rfl rfl rfl ?_ | refine WX.leq rfl rfl rfl ?_ | refine WX.gtr rfl rfl rfl ?_ | refine WX.geq rfl rfl rfl ?_ | refine WX.add rfl rfl rfl (by omega) ?_ | refine WX.sub' rfl rfl rfl (by omega) ?_ | refine WX.eqPN rfl rfl rfl ?_ | refine WX.nePN rfl rfl rfl ?_ | refine WX.eqNN rfl rfl rfl ?_ | refine WX.neNN rfl rfl rfl ?_)
  | (refine I.un ?_; first | refine WX.notD rfl rfl ?_ | refine WX.not rfl rfl ?_)
  | (refine I.pk ?_; first | refine WX.pickT rfl rfl rfl ?_ | refine WX.pickF rfl rfl rfl ?_)
  | (refine I.bi ?_; first | refine WX.lenSl rfl (by assumption) rfl ?_ | refine WX.len rfl rfl ?_ | refine WX.lenS rfl rfl ?_ | refine WX.min rfl rfl rfl ?_ | refine WX.max rfl rfl rfl ?_)
  | (refine I.ix ?_; first | refine WX.idx rfl rfl (by assumption) (by assumption) rfl ?_ | refine WX.idxI rfl rfl (by assumption) (by omega) (by assumption) rfl ?_ | refine WX.idxP rfl rfl (by omega) rfl ?_)
  | (refine I.sl ?_; refine WX.slTo rfl rfl (by assumption) (by omega) rfl ?_)
  | (refine I.st ?_; first | (refine WX.store rfl rfl rfl rfl ?_; try simp only [List.set_cons_zero, List.set_cons_succ, Nat.reduceAdd]) | (refine WX.storeG rfl rfl rfl rfl rfl rfl ?_; try simp only [setAt, List.set_cons_zero, List.set_cons_succ, Nat.reduceAdd]; try rw [setAt_whole (by rfl)]))
  | (refine I.bd ?_; refine WX.build rfl rfl rfl ?_; try simp only [setAt, Value.cells, List.set_cons_zero, List.set_cons_succ]) | (refine I.bx ?_; refine WX.box rfl rfl rfl (fun _ => ?_)) | (refine I.al ?_; refine WX.alloc rfl (fun _ => ?_)) | (refine I.ex ?_; refine WX.extract rfl rfl rfl ?_))
        refine WX.callQ rfl hle rfl ?_
        repeat' (first
  | refine W.seq ?_ | refine W.region ?_ | refine WX.nil ?_ | refine D.seq ?_ | refine W.block ?_ | refine D.blk ?_ | refine W.skip ?_ | refine W.exit ?_ | refine W.ret ?_
  | refine WM.nil ?_ | refine WM.un ?_ | refine WM.an ?_ | refine WM.backU ?_ | refine WM.back ?_
  | refine D.blkX ?_ | refine D.blkY rfl ?_ | refine D.roundX ?_ | refine D.roundR ?_ | refine D.blkR ?_
  | (refine I.gd ?_; first | refine WX.gy rfl rfl ?_ | refine WX.gn rfl rfl rfl rfl ?_ | refine WX.gnN rfl rfl rfl ?_ | refine WX.gu rfl rfl rfl ?_ | refine WX.guN rfl rfl ?_ | refine WX.gT rfl rfl (by first | assumption | omega) ?_ | refine WX.gF rfl rfl (by first | assumption | omega) ?_ | refine WX.gS rfl rfl (fun _ => ?_) (fun _ => ?_))
  | (refine I.cond ?_; first | refine W.condT rfl ?_ | refine W.condF rfl ?_ | refine W.condP rfl (by first | assumption | omega) ?_ | refine W.condN rfl (by first | assumption | omega) ?_)
  | (refine I.mv ?_; refine WX.move rfl rfl ?_) | (refine I.as ?_; refine WX.assign rfl rfl ?_)
  | (refine I.nc ?_; first | refine WX.nilCheck rfl rfl ?_ | refine WX.nilE rfl (by assumption) (by assumption) rfl ?_)
  | (refine I.fa ?_; first | refine WX.fieldAddr rfl rfl ?_ | refine WX.fieldE rfl (by assumption) (by assumption) rfl ?_)
  | (refine I.ld ?_; first | refine WX.load rfl rfl rfl ?_ | refine WX.loadE rfl (by assumption) (by assumption) rfl rfl rfl ?_ | refine WX.loadA rfl rfl rfl rfl ?_ | refine WX.loadEW rfl (by assumption) (by assumption) rfl rfl ?_)
  | (refine I.bin ?_; first | refine WX.lss rfl rfl rfl ?_ | refine WX.eql rfl rfl rfl ?_ | refine WX.neq rfl rfl rfl ?_ | refine WX.leq rfl rfl rfl ?_ | refine WX.gtr rfl rfl rfl ?_ | refine WX.geq rfl rfl rfl ?_ | refine WX.add rfl rfl rfl (by omega) ?_ | refine WX.sub' rfl rfl rfl (by omega) ?_ | refine WX.eqPN rfl rfl rfl ?_ | refine WX.nePN rfl rfl rfl ?_ | refine WX.eqNN rfl rfl rfl ?_ | refine WX.neNN rfl rfl rfl ?_)
  | (refine I.un ?_; first | refine WX.notD rfl rfl ?_ | refine WX.not rfl rfl ?_)
  | (refine I.pk ?_; first | refine WX.pickT rfl rfl rfl ?_ | refine WX.pickF rfl rfl rfl ?_)
  | (refine I.bi ?_; first | refine WX.lenSl rfl (by assumption) rfl ?_ | refine WX.len rfl rfl ?_ | refine WX.lenS rfl rfl ?_ | refine WX.min rfl rfl rfl ?_ | refine WX.max rfl rfl rfl ?_)
  | (refine I.ix ?_; first | refine WX.idx rfl rfl (by assumption) (by assumption) rfl ?_ | refine WX.idxI rfl rfl (by assumption) (by omega) (by assumption) rfl ?_ | refine WX.idxP rfl rfl (by omega) rfl ?_)
  | (refine I.sl ?_; refine WX.slTo rfl rfl (by assumption) (by omega) rfl ?_)
  | (refine I.st ?_; first | (refine WX.store rfl rfl rfl rfl ?_; try simp only [List.set_cons_zero, List.set_cons_succ, Nat.reduceAdd]) | (refine WX.storeG rfl rfl rfl rfl rfl rfl ?_; try simp only [setAt, List.set_cons_zero, List.set_cons_succ, Nat.reduceAdd]; try rw [setAt_whole (by rfl)]))
  | (refine I.bd ?_; refine WX.build rfl rfl rfl ?_; try simp only [setAt, Value.cells, List.set_cons_zero, List.set_cons_succ]) | (refine I.bx ?_; refine WX.box rfl rfl rfl (fun _ => ?_)) | (refine I.al ?_; refine WX.alloc rfl (fun _ => ?_)) | (refine I.ex ?_; refine WX.extract rfl rfl rfl ?_))
        refine WX.callQ rfl hrd rfl ?_
        repeat' (first
  | refine W.seq ?_ | refine W.region ?_ | refine WX.nil ?_ | refine D.seq ?_ | refine W.block ?_ | refine D.blk ?_ | refine W.skip ?_ | refine W.exit ?_ | refine W.ret ?_
  | refine WM.nil ?_ | refine WM.un ?_ | refine WM.an ?_ | refine WM.backU ?_ | refine WM.back ?_
  | refine D.blkX ?_ | refine D.blkY rfl ?_ | refine D.roundX ?_ | refine D.roundR ?_ | refine D.blkR ?_
  | (refine I.gd ?_; first | refine WX.gy rfl rfl ?_ | refine WX.gn rfl rfl rfl rfl ?_ | refine WX.gnN rfl rfl rfl ?_ | refine WX.gu rfl rfl rfl ?_ | refine WX.guN rfl rfl ?_ | refine WX.gT rfl rfl (by first | assumption | omega) ?_ | refine WX.gF rfl rfl (by first | assumption | omega) ?_ | refine WX.gS rfl rfl (fun _ => ?_) (fun _ => ?_))
  | (refine I.cond ?_; first | refine W.condT rfl ?_ | refine W.condF rfl ?_ | refine W.condP rfl (by first | assumption | omega) ?_ | refine W.condN rfl (by first | assumption | omega) ?_)
  | (refine I.mv ?_; refine WX.move rfl rfl ?_) | (refine I.as ?_; refine WX.assign rfl rfl ?_)
  | (refine I.nc ?_; first | refine WX.nilCheck rfl rfl ?_ | refine WX.nilE rfl (by assumption) (by assumption) rfl ?_)
  | (refine I.fa ?_; first | refine WX.fieldAddr rfl rfl ?_ | refine WX.fieldE rfl (by assumption) (by assumption) rfl ?_)
  | (refine I.ld ?_; first | refine WX.load rfl rfl rfl ?_ | refine WX.loadE rfl (by assumption) (by assumption) rfl rfl rfl ?_ | refine WX.loadA rfl rfl rfl rfl ?_ | refine WX.loadEW rfl (by assumption) (by assumption) rfl rfl ?_)
  | (refine I.bin ?_; first | refine WX.lss rfl rfl rfl ?_ | refine WX.eql rfl rfl rfl ?_ | refine WX.neq rfl rfl rfl ?_ | refine WX.leq rfl rfl rfl ?_ | refine WX.gtr rfl rfl rfl ?_ | refine WX.geq rfl rfl rfl ?_ | refine WX.add rfl rfl rfl (by omega) ?_ | refine WX.sub' rfl rfl rfl (by omega) ?_ | refine WX.eqPN rfl rfl rfl ?_ | refine WX.nePN rfl rfl rfl ?_ | refine WX.eqNN rfl rfl rfl ?_ | refine WX.neNN rfl rfl rfl ?_)
  | (refine I.un ?_; first | refine WX.notD rfl rfl ?_ | refine WX.not rfl rfl ?_)
  | (refine I.pk ?_; first | refine WX.pickT rfl rfl rfl ?_ | refine WX.pickF rfl rfl rfl ?_)
  | (refine I.bi ?_; first | refine WX.lenSl rfl (by assumption) rfl ?_ | refine WX.len rfl rfl ?_ | refine WX.lenS rfl rfl ?_ | refine WX.min rfl rfl rfl ?_ | refine WX.max rfl rfl rfl ?_)
  | (refine I.ix ?_; first | refine WX.idx rfl rfl (by assumption) (by assumption) rfl ?_ | refine WX.idxI rfl rfl (by assumption) (by omega) (by assumption) rfl ?_ | refine WX.idxP rfl rfl (by omega) rfl ?_)
  | (refine I.sl ?_; refine WX.slTo rfl rfl (by assumption) (by omega) rfl ?_)
  | (refine I.st ?_; first | (refine WX.store rfl rfl rfl rfl ?_; try simp only [List.set_cons_zero, List.set_cons_succ, Nat.reduceAdd]) | (refine WX.storeG rfl rfl rfl rfl rfl rfl ?_; try simp only [setAt, List.set_cons_zero, List.set_cons_succ, Nat.reduceAdd]; try rw [setAt_whole (by rfl)]))
  | (refine I.bd ?_; refine WX.build rfl rfl rfl ?_; try simp only [setAt, Value.cells, List.set_cons_zero, List.set_cons_succ]) | (refine I.bx ?_; refine WX.box rfl rfl rfl (fun _ => ?_)) | (refine I.al ?_; refine WX.alloc rfl (fun _ => ?_)) | (refine I.ex ?_; refine WX.extract rfl rfl rfl ?_))
        exact D.fin1 [h] _ rfl rfl ⟨rfl, rfl⟩
end Go.Proofs.Ytllopddalmdbjaa
