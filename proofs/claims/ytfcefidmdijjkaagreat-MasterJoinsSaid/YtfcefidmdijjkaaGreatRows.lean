/-
  No cell of these rows narrows 'for every input' (looked for: loops, veiled, ifaces, maps, wideKeys, modest, calm, conditions, laid).
  DERIVED. THE GIVEN ROWS OF THIS SEAT. 4 by the template 'for every input the law returns true; each argument reads behind the call as it read before'; 0 by the template 'total and deterministic' (their statements: YtfcefidmdijjkaaGreatTotals.lean).
  GIVEN WITH THE SEED: the statements are not yours to turn. If you find one false, say at which input.
  Laid BY PROGRAM, IN A SANDBOX (cutbox-rows.mjs): the forced cells as the released guide's own fill.sh prints them over the translation 8d7b2b4c81c8005e… (all of the seat's roots in one cut). By AI agents, Wed Nov 11 2026. No macro, syntax, notation, axiom, sorry.
-/
import Derived.Test.YtfcefidmdijjkaaGreatChecked
import GoSem.Claim
import GoSem.ClaimJoined
import GoSem.ClaimMapViews
import Derived.JoinedTies
import Derived.KernelRfl
namespace Go.Proofs.YtfcefidmdijjkaaGreat
/- THE CELL 'sum', in the pinned program and in every row, IS THE sha256 OF THE DUMP (.gsa) THAT YtfcefidmdijjkaaGreatProg.lean LOADS. Nothing in Lean hashes anything: it is a label: what it is worth is what the hold of that sum in a sandbox is worth. -/
noncomputable def Tryz.pinned : Pinned := { name := "ytfcefidmdijjkaagreat", sum := "8d7b2b4c81c8005e0a0429fa1be4728bc2654d760c3707a6b5ee33f1f3f2fae2", checked := Tryz.checked }
namespace Rows
def none {H : Type} : Left H := { results := [], args := [] }

/-- 'causewaylaw14.MasterRises': WHATEVER THE INPUT: true; the input reads as it did. -/
def masterRisesSpec : ChangeSpec := { name := "masterRises", fn := fun _ => fun
  | [d1, d2] => { results := [.lit (.bool true)], args := [d1, d2] }
  | _ => none }
def masterRisesRow : OpenClaim := { program := "ytfcefidmdijjkaagreat", sum := "8d7b2b4c81c8005e0a0429fa1be4728bc2654d760c3707a6b5ee33f1f3f2fae2", func := "causeway/causewaylaw14.MasterRises", spec := "masterRises", unfollowed := true, recurses := true, apart := false }
def MasterRisesSaid : Prop := masterRisesRow.holds Tryz.pinned (OpenSpec.ofChange masterRisesSpec)

/-- ITS FALSE NEIGHBOUR: 'it returns false'. Refute it at one input. -/
def masterRisesWrong : ChangeSpec := { name := "masterRises", fn := fun _ => fun
  | [d1, d2] => { results := [.lit (.bool false)], args := [d1, d2] }
  | _ => none }
def MasterRisesWrongFalsely : Prop := masterRisesRow.holds Tryz.pinned (OpenSpec.ofChange masterRisesWrong)

/-- 'causewaylaw14.MasterPlays': WHATEVER THE INPUT: true; the input reads as it did. -/
def masterPlaysSpec : ChangeSpec := { name := "masterPlays", fn := fun _ => fun
  | [d1, d2, d3] => { results := [.lit (.bool true)], args := [d1, d2, d3] }
  | _ => none }
def masterPlaysRow : OpenClaim := { program := "ytfcefidmdijjkaagreat", sum := "8d7b2b4c81c8005e0a0429fa1be4728bc2654d760c3707a6b5ee33f1f3f2fae2", func := "causeway/causewaylaw14.MasterPlays", spec := "masterPlays", unfollowed := true, recurses := true, apart := false }
def MasterPlaysSaid : Prop := masterPlaysRow.holds Tryz.pinned (OpenSpec.ofChange masterPlaysSpec)

/-- ITS FALSE NEIGHBOUR: 'it returns false'. Refute it at one input. -/
def masterPlaysWrong : ChangeSpec := { name := "masterPlays", fn := fun _ => fun
  | [d1, d2, d3] => { results := [.lit (.bool false)], args := [d1, d2, d3] }
  | _ => none }
def MasterPlaysWrongFalsely : Prop := masterPlaysRow.holds Tryz.pinned (OpenSpec.ofChange masterPlaysWrong)

/-- 'causewaylaw14.MasterBack': WHATEVER THE INPUT: true; the input reads as it did. -/
def masterBackSpec : ChangeSpec := { name := "masterBack", fn := fun _ => fun
  | [d1, d2, d3] => { results := [.lit (.bool true)], args := [d1, d2, d3] }
  | _ => none }
def masterBackRow : OpenClaim := { program := "ytfcefidmdijjkaagreat", sum := "8d7b2b4c81c8005e0a0429fa1be4728bc2654d760c3707a6b5ee33f1f3f2fae2", func := "causeway/causewaylaw14.MasterBack", spec := "masterBack", unfollowed := true, recurses := true, apart := false }
def MasterBackSaid : Prop := masterBackRow.holds Tryz.pinned (OpenSpec.ofChange masterBackSpec)

/-- ITS FALSE NEIGHBOUR: 'it returns false'. Refute it at one input. -/
def masterBackWrong : ChangeSpec := { name := "masterBack", fn := fun _ => fun
  | [d1, d2, d3] => { results := [.lit (.bool false)], args := [d1, d2, d3] }
  | _ => none }
def MasterBackWrongFalsely : Prop := masterBackRow.holds Tryz.pinned (OpenSpec.ofChange masterBackWrong)

/-- 'causewaylaw14.MasterJoins': WHATEVER THE INPUT: true; the input reads as it did. -/
def masterJoinsSpec : ChangeSpec := { name := "masterJoins", fn := fun _ => fun
  | [d1, d2, d3, d4] => { results := [.lit (.bool true)], args := [d1, d2, d3, d4] }
  | _ => none }
def masterJoinsRow : OpenClaim := { program := "ytfcefidmdijjkaagreat", sum := "8d7b2b4c81c8005e0a0429fa1be4728bc2654d760c3707a6b5ee33f1f3f2fae2", func := "causeway/causewaylaw14.MasterJoins", spec := "masterJoins", unfollowed := true, recurses := true, apart := false }
def MasterJoinsSaid : Prop := masterJoinsRow.holds Tryz.pinned (OpenSpec.ofChange masterJoinsSpec)

/-- ITS FALSE NEIGHBOUR: 'it returns false'. Refute it at one input. -/
def masterJoinsWrong : ChangeSpec := { name := "masterJoins", fn := fun _ => fun
  | [d1, d2, d3, d4] => { results := [.lit (.bool false)], args := [d1, d2, d3, d4] }
  | _ => none }
def MasterJoinsWrongFalsely : Prop := masterJoinsRow.holds Tryz.pinned (OpenSpec.ofChange masterJoinsWrong)

/- THE SECOND FORM. 'bulk': how many values and letters a reading holds, each counted each time it is reached (what is shared counts as often as it is met; a slice's spare places count too). A statement '..UptoSaid' is the law's where the arguments, and the package variables that the reading takes, are together of bulk at most 1048576: NARROWER than '..Said'. Prove '..Said' where nothing that the law and all that it calls make is longer than what came in: it says more and counts as full. Else prove '..UptoSaid'. A law counts once. -/
mutual
def uptoBulk {H : Type} : DataW H → Nat
  | .lit (.string bytes) => bytes.length + 1
  | .lit _ => 1
  | .nil => 1
  | .ptr d => uptoBulk d + 1
  | .slice elems spare => uptoBulkAll elems + uptoBulkAll spare + 1
  | .agg parts => uptoBulkAll parts + 1
  | .iface _ d => uptoBulk d + 1
  | .map entries => uptoBulkEntries entries + 1
  | .held _ => 1
def uptoBulkAll {H : Type} : List (DataW H) → Nat
  | [] => 0
  | d :: r => uptoBulk d + uptoBulkAll r
def uptoBulkEntries {H : Type} : List (Lit × DataW H) → Nat
  | [] => 0
  | x :: r => uptoBulkEntry x + uptoBulkEntries r
def uptoBulkEntry {H : Type} : Lit × DataW H → Nat
  | (.string bytes, d) => bytes.length + uptoBulk d + 1
  | (_, d) => uptoBulk d + 1
 end
def uptoSmall : (H : Type) → List (DataW H) → Bool := fun _ ds => decide (uptoBulkAll ds ≤ 1048576)
def OpenSpec.upto (s : _root_.Go.ChangeSpec) : _root_.Go.OpenSpec := { _root_.Go.OpenSpec.ofChange s with cond := some uptoSmall }

/-- 'causewaylaw14.MasterRises', WHERE WHAT IT READS IS OF BULK AT MOST 1048576: true; the input reads as it did. -/
def masterRisesUptoRow : OpenClaim := { program := "ytfcefidmdijjkaagreat", sum := "8d7b2b4c81c8005e0a0429fa1be4728bc2654d760c3707a6b5ee33f1f3f2fae2", func := "causeway/causewaylaw14.MasterRises", spec := "masterRises", unfollowed := true, recurses := true, apart := false, narrowed := true }
def MasterRisesUptoSaid : Prop := masterRisesUptoRow.holds Tryz.pinned (OpenSpec.upto masterRisesSpec)

/-- 'causewaylaw14.MasterPlays', WHERE WHAT IT READS IS OF BULK AT MOST 1048576: true; the input reads as it did. -/
def masterPlaysUptoRow : OpenClaim := { program := "ytfcefidmdijjkaagreat", sum := "8d7b2b4c81c8005e0a0429fa1be4728bc2654d760c3707a6b5ee33f1f3f2fae2", func := "causeway/causewaylaw14.MasterPlays", spec := "masterPlays", unfollowed := true, recurses := true, apart := false, narrowed := true }
def MasterPlaysUptoSaid : Prop := masterPlaysUptoRow.holds Tryz.pinned (OpenSpec.upto masterPlaysSpec)

/-- 'causewaylaw14.MasterBack', WHERE WHAT IT READS IS OF BULK AT MOST 1048576: true; the input reads as it did. -/
def masterBackUptoRow : OpenClaim := { program := "ytfcefidmdijjkaagreat", sum := "8d7b2b4c81c8005e0a0429fa1be4728bc2654d760c3707a6b5ee33f1f3f2fae2", func := "causeway/causewaylaw14.MasterBack", spec := "masterBack", unfollowed := true, recurses := true, apart := false, narrowed := true }
def MasterBackUptoSaid : Prop := masterBackUptoRow.holds Tryz.pinned (OpenSpec.upto masterBackSpec)

/-- 'causewaylaw14.MasterJoins', WHERE WHAT IT READS IS OF BULK AT MOST 1048576: true; the input reads as it did. -/
def masterJoinsUptoRow : OpenClaim := { program := "ytfcefidmdijjkaagreat", sum := "8d7b2b4c81c8005e0a0429fa1be4728bc2654d760c3707a6b5ee33f1f3f2fae2", func := "causeway/causewaylaw14.MasterJoins", spec := "masterJoins", unfollowed := true, recurses := true, apart := false, narrowed := true }
def MasterJoinsUptoSaid : Prop := masterJoinsUptoRow.holds Tryz.pinned (OpenSpec.upto masterJoinsSpec)

end Rows
end Go.Proofs.YtfcefidmdijjkaaGreat
