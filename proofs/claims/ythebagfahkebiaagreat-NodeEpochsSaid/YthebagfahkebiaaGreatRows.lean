/-
  No cell of these rows narrows 'for every input' (looked for: loops, veiled, ifaces, maps, wideKeys, modest, calm, conditions, laid).
  DERIVED. THE GIVEN ROWS OF THIS SEAT. 7 by the template 'for every input the law returns true; each argument reads behind the call as it read before'; 0 by the template 'total and deterministic' (their statements: YthebagfahkebiaaGreatTotals.lean).
  GIVEN WITH THE SEED: the statements are not yours to turn. If you find one false, say at which input.
  Laid BY PROGRAM, IN A SANDBOX (cutbox-rows.mjs): the forced cells as the released guide's own fill.sh prints them over the translation 7034f2e3e91cb62e… (all of the seat's roots in one cut). By AI agents, Wed Nov 11 2026. No macro, syntax, notation, axiom, sorry.
-/
import Derived.Test.YthebagfahkebiaaGreatChecked
import GoSem.Claim
import GoSem.ClaimJoined
import GoSem.ClaimMapViews
import Derived.JoinedTies
import Derived.KernelRfl
namespace Go.Proofs.YthebagfahkebiaaGreat
/- THE CELL 'sum', in the pinned program and in every row, IS THE sha256 OF THE DUMP (.gsa) THAT YthebagfahkebiaaGreatProg.lean LOADS. Nothing in Lean hashes anything: it is a label: what it is worth is what the hold of that sum in a sandbox is worth. -/
noncomputable def Tryz.pinned : Pinned := { name := "ythebagfahkebiaagreat", sum := "7034f2e3e91cb62e8aed48bc46be344c4ae6b7d2adc355eb68ea93780ecf4eca", checked := Tryz.checked }
namespace Rows
def none {H : Type} : Left H := { results := [], args := [] }

/-- 'causewaylaw20.NodeTells': WHATEVER THE INPUT: true; the input reads as it did. -/
def nodeTellsSpec : ChangeSpec := { name := "nodeTells", fn := fun _ => fun
  | [d1, d2, d3] => { results := [.lit (.bool true)], args := [d1, d2, d3] }
  | _ => none }
def nodeTellsRow : OpenClaim := { program := "ythebagfahkebiaagreat", sum := "7034f2e3e91cb62e8aed48bc46be344c4ae6b7d2adc355eb68ea93780ecf4eca", func := "causeway/causewaylaw20.NodeTells", spec := "nodeTells", unfollowed := true, recurses := true, apart := false }
def NodeTellsSaid : Prop := nodeTellsRow.holds Tryz.pinned (OpenSpec.ofChange nodeTellsSpec)

/-- ITS FALSE NEIGHBOUR: 'it returns false'. Refute it at one input. -/
def nodeTellsWrong : ChangeSpec := { name := "nodeTells", fn := fun _ => fun
  | [d1, d2, d3] => { results := [.lit (.bool false)], args := [d1, d2, d3] }
  | _ => none }
def NodeTellsWrongFalsely : Prop := nodeTellsRow.holds Tryz.pinned (OpenSpec.ofChange nodeTellsWrong)

/-- 'causewaylaw20.NodeSays': WHATEVER THE INPUT: true; the input reads as it did. -/
def nodeSaysSpec : ChangeSpec := { name := "nodeSays", fn := fun _ => fun
  | [d1, d2, d3] => { results := [.lit (.bool true)], args := [d1, d2, d3] }
  | _ => none }
def nodeSaysRow : OpenClaim := { program := "ythebagfahkebiaagreat", sum := "7034f2e3e91cb62e8aed48bc46be344c4ae6b7d2adc355eb68ea93780ecf4eca", func := "causeway/causewaylaw20.NodeSays", spec := "nodeSays", unfollowed := true, recurses := true, apart := false }
def NodeSaysSaid : Prop := nodeSaysRow.holds Tryz.pinned (OpenSpec.ofChange nodeSaysSpec)

/-- ITS FALSE NEIGHBOUR: 'it returns false'. Refute it at one input. -/
def nodeSaysWrong : ChangeSpec := { name := "nodeSays", fn := fun _ => fun
  | [d1, d2, d3] => { results := [.lit (.bool false)], args := [d1, d2, d3] }
  | _ => none }
def NodeSaysWrongFalsely : Prop := nodeSaysRow.holds Tryz.pinned (OpenSpec.ofChange nodeSaysWrong)

/-- 'causewaylaw20.NodeServes': WHATEVER THE INPUT: true; the input reads as it did. -/
def nodeServesSpec : ChangeSpec := { name := "nodeServes", fn := fun _ => fun
  | [d1, d2, d3, d4, d5, d6] => { results := [.lit (.bool true)], args := [d1, d2, d3, d4, d5, d6] }
  | _ => none }
def nodeServesRow : OpenClaim := { program := "ythebagfahkebiaagreat", sum := "7034f2e3e91cb62e8aed48bc46be344c4ae6b7d2adc355eb68ea93780ecf4eca", func := "causeway/causewaylaw20.NodeServes", spec := "nodeServes", unfollowed := true, recurses := true, apart := false }
def NodeServesSaid : Prop := nodeServesRow.holds Tryz.pinned (OpenSpec.ofChange nodeServesSpec)

/-- ITS FALSE NEIGHBOUR: 'it returns false'. Refute it at one input. -/
def nodeServesWrong : ChangeSpec := { name := "nodeServes", fn := fun _ => fun
  | [d1, d2, d3, d4, d5, d6] => { results := [.lit (.bool false)], args := [d1, d2, d3, d4, d5, d6] }
  | _ => none }
def NodeServesWrongFalsely : Prop := nodeServesRow.holds Tryz.pinned (OpenSpec.ofChange nodeServesWrong)

/-- 'causewaylaw20.NodeTwice': WHATEVER THE INPUT: true; the input reads as it did. -/
def nodeTwiceSpec : ChangeSpec := { name := "nodeTwice", fn := fun _ => fun
  | [d1, d2, d3, d4] => { results := [.lit (.bool true)], args := [d1, d2, d3, d4] }
  | _ => none }
def nodeTwiceRow : OpenClaim := { program := "ythebagfahkebiaagreat", sum := "7034f2e3e91cb62e8aed48bc46be344c4ae6b7d2adc355eb68ea93780ecf4eca", func := "causeway/causewaylaw20.NodeTwice", spec := "nodeTwice", unfollowed := true, recurses := true, apart := false }
def NodeTwiceSaid : Prop := nodeTwiceRow.holds Tryz.pinned (OpenSpec.ofChange nodeTwiceSpec)

/-- ITS FALSE NEIGHBOUR: 'it returns false'. Refute it at one input. -/
def nodeTwiceWrong : ChangeSpec := { name := "nodeTwice", fn := fun _ => fun
  | [d1, d2, d3, d4] => { results := [.lit (.bool false)], args := [d1, d2, d3, d4] }
  | _ => none }
def NodeTwiceWrongFalsely : Prop := nodeTwiceRow.holds Tryz.pinned (OpenSpec.ofChange nodeTwiceWrong)

/-- 'causewaylaw20.NodeShips': WHATEVER THE INPUT: true; the input reads as it did. -/
def nodeShipsSpec : ChangeSpec := { name := "nodeShips", fn := fun _ => fun
  | [d1, d2, d3] => { results := [.lit (.bool true)], args := [d1, d2, d3] }
  | _ => none }
def nodeShipsRow : OpenClaim := { program := "ythebagfahkebiaagreat", sum := "7034f2e3e91cb62e8aed48bc46be344c4ae6b7d2adc355eb68ea93780ecf4eca", func := "causeway/causewaylaw20.NodeShips", spec := "nodeShips", unfollowed := true, recurses := true, apart := false }
def NodeShipsSaid : Prop := nodeShipsRow.holds Tryz.pinned (OpenSpec.ofChange nodeShipsSpec)

/-- ITS FALSE NEIGHBOUR: 'it returns false'. Refute it at one input. -/
def nodeShipsWrong : ChangeSpec := { name := "nodeShips", fn := fun _ => fun
  | [d1, d2, d3] => { results := [.lit (.bool false)], args := [d1, d2, d3] }
  | _ => none }
def NodeShipsWrongFalsely : Prop := nodeShipsRow.holds Tryz.pinned (OpenSpec.ofChange nodeShipsWrong)

/-- 'causewaylaw20.NodeForgets': WHATEVER THE INPUT: true; the input reads as it did. -/
def nodeForgetsSpec : ChangeSpec := { name := "nodeForgets", fn := fun _ => fun
  | [d1, d2, d3, d4, d5] => { results := [.lit (.bool true)], args := [d1, d2, d3, d4, d5] }
  | _ => none }
def nodeForgetsRow : OpenClaim := { program := "ythebagfahkebiaagreat", sum := "7034f2e3e91cb62e8aed48bc46be344c4ae6b7d2adc355eb68ea93780ecf4eca", func := "causeway/causewaylaw20.NodeForgets", spec := "nodeForgets", unfollowed := true, recurses := true, apart := false }
def NodeForgetsSaid : Prop := nodeForgetsRow.holds Tryz.pinned (OpenSpec.ofChange nodeForgetsSpec)

/-- ITS FALSE NEIGHBOUR: 'it returns false'. Refute it at one input. -/
def nodeForgetsWrong : ChangeSpec := { name := "nodeForgets", fn := fun _ => fun
  | [d1, d2, d3, d4, d5] => { results := [.lit (.bool false)], args := [d1, d2, d3, d4, d5] }
  | _ => none }
def NodeForgetsWrongFalsely : Prop := nodeForgetsRow.holds Tryz.pinned (OpenSpec.ofChange nodeForgetsWrong)

/-- 'causewaylaw20.NodeEpochs': WHATEVER THE INPUT: true; the input reads as it did. -/
def nodeEpochsSpec : ChangeSpec := { name := "nodeEpochs", fn := fun _ => fun
  | [d1, d2, d3, d4] => { results := [.lit (.bool true)], args := [d1, d2, d3, d4] }
  | _ => none }
def nodeEpochsRow : OpenClaim := { program := "ythebagfahkebiaagreat", sum := "7034f2e3e91cb62e8aed48bc46be344c4ae6b7d2adc355eb68ea93780ecf4eca", func := "causeway/causewaylaw20.NodeEpochs", spec := "nodeEpochs", unfollowed := true, recurses := true, apart := false }
def NodeEpochsSaid : Prop := nodeEpochsRow.holds Tryz.pinned (OpenSpec.ofChange nodeEpochsSpec)

/-- ITS FALSE NEIGHBOUR: 'it returns false'. Refute it at one input. -/
def nodeEpochsWrong : ChangeSpec := { name := "nodeEpochs", fn := fun _ => fun
  | [d1, d2, d3, d4] => { results := [.lit (.bool false)], args := [d1, d2, d3, d4] }
  | _ => none }
def NodeEpochsWrongFalsely : Prop := nodeEpochsRow.holds Tryz.pinned (OpenSpec.ofChange nodeEpochsWrong)

/- THE SECOND FORM. 'bulk': how many values and letters a reading holds, each counted each time it is reached (what is shared counts as often as it is met; a slice's spare places count too). A statement '..UptoSaid' is the law's where the arguments, and the package variables that the reading takes, are together of bulk at most 1048576: NARROWER than '..Said'. Prove '..Said' where nothing that the law and all that it calls make is longer than what came in: it says more and counts as full. Else prove '..UptoSaid'. A law counts once. -/
mutual
def uptoBulk {H : Type} : DataW H → Nat
  | .lit (.string bytes) => bytes.length + 1
  | .lit _ => 1
  | .nil => 1
  | .ptr d => uptoBulk d + 1
  | .slice elems spare => uptoBulkAll elems + uptoBulkAll spare + 1
  | .agg parts => uptoBulkAll parts + 1
  | .iface _ d => uptoBulk d + 1
  | .map entries => uptoBulkEntries entries + 1
  | .held _ => 1
def uptoBulkAll {H : Type} : List (DataW H) → Nat
  | [] => 0
  | d :: r => uptoBulk d + uptoBulkAll r
def uptoBulkEntries {H : Type} : List (Lit × DataW H) → Nat
  | [] => 0
  | x :: r => uptoBulkEntry x + uptoBulkEntries r
def uptoBulkEntry {H : Type} : Lit × DataW H → Nat
  | (.string bytes, d) => bytes.length + uptoBulk d + 1
  | (_, d) => uptoBulk d + 1
 end
def uptoSmall : (H : Type) → List (DataW H) → Bool := fun _ ds => decide (uptoBulkAll ds ≤ 1048576)
def OpenSpec.upto (s : _root_.Go.ChangeSpec) : _root_.Go.OpenSpec := { _root_.Go.OpenSpec.ofChange s with cond := some uptoSmall }

/-- 'causewaylaw20.NodeTells', WHERE WHAT IT READS IS OF BULK AT MOST 1048576: true; the input reads as it did. -/
def nodeTellsUptoRow : OpenClaim := { program := "ythebagfahkebiaagreat", sum := "7034f2e3e91cb62e8aed48bc46be344c4ae6b7d2adc355eb68ea93780ecf4eca", func := "causeway/causewaylaw20.NodeTells", spec := "nodeTells", unfollowed := true, recurses := true, apart := false, narrowed := true }
def NodeTellsUptoSaid : Prop := nodeTellsUptoRow.holds Tryz.pinned (OpenSpec.upto nodeTellsSpec)

/-- 'causewaylaw20.NodeSays', WHERE WHAT IT READS IS OF BULK AT MOST 1048576: true; the input reads as it did. -/
def nodeSaysUptoRow : OpenClaim := { program := "ythebagfahkebiaagreat", sum := "7034f2e3e91cb62e8aed48bc46be344c4ae6b7d2adc355eb68ea93780ecf4eca", func := "causeway/causewaylaw20.NodeSays", spec := "nodeSays", unfollowed := true, recurses := true, apart := false, narrowed := true }
def NodeSaysUptoSaid : Prop := nodeSaysUptoRow.holds Tryz.pinned (OpenSpec.upto nodeSaysSpec)

/-- 'causewaylaw20.NodeServes', WHERE WHAT IT READS IS OF BULK AT MOST 1048576: true; the input reads as it did. -/
def nodeServesUptoRow : OpenClaim := { program := "ythebagfahkebiaagreat", sum := "7034f2e3e91cb62e8aed48bc46be344c4ae6b7d2adc355eb68ea93780ecf4eca", func := "causeway/causewaylaw20.NodeServes", spec := "nodeServes", unfollowed := true, recurses := true, apart := false, narrowed := true }
def NodeServesUptoSaid : Prop := nodeServesUptoRow.holds Tryz.pinned (OpenSpec.upto nodeServesSpec)

/-- 'causewaylaw20.NodeTwice', WHERE WHAT IT READS IS OF BULK AT MOST 1048576: true; the input reads as it did. -/
def nodeTwiceUptoRow : OpenClaim := { program := "ythebagfahkebiaagreat", sum := "7034f2e3e91cb62e8aed48bc46be344c4ae6b7d2adc355eb68ea93780ecf4eca", func := "causeway/causewaylaw20.NodeTwice", spec := "nodeTwice", unfollowed := true, recurses := true, apart := false, narrowed := true }
def NodeTwiceUptoSaid : Prop := nodeTwiceUptoRow.holds Tryz.pinned (OpenSpec.upto nodeTwiceSpec)

/-- 'causewaylaw20.NodeShips', WHERE WHAT IT READS IS OF BULK AT MOST 1048576: true; the input reads as it did. -/
def nodeShipsUptoRow : OpenClaim := { program := "ythebagfahkebiaagreat", sum := "7034f2e3e91cb62e8aed48bc46be344c4ae6b7d2adc355eb68ea93780ecf4eca", func := "causeway/causewaylaw20.NodeShips", spec := "nodeShips", unfollowed := true, recurses := true, apart := false, narrowed := true }
def NodeShipsUptoSaid : Prop := nodeShipsUptoRow.holds Tryz.pinned (OpenSpec.upto nodeShipsSpec)

/-- 'causewaylaw20.NodeForgets', WHERE WHAT IT READS IS OF BULK AT MOST 1048576: true; the input reads as it did. -/
def nodeForgetsUptoRow : OpenClaim := { program := "ythebagfahkebiaagreat", sum := "7034f2e3e91cb62e8aed48bc46be344c4ae6b7d2adc355eb68ea93780ecf4eca", func := "causeway/causewaylaw20.NodeForgets", spec := "nodeForgets", unfollowed := true, recurses := true, apart := false, narrowed := true }
def NodeForgetsUptoSaid : Prop := nodeForgetsUptoRow.holds Tryz.pinned (OpenSpec.upto nodeForgetsSpec)

/-- 'causewaylaw20.NodeEpochs', WHERE WHAT IT READS IS OF BULK AT MOST 1048576: true; the input reads as it did. -/
def nodeEpochsUptoRow : OpenClaim := { program := "ythebagfahkebiaagreat", sum := "7034f2e3e91cb62e8aed48bc46be344c4ae6b7d2adc355eb68ea93780ecf4eca", func := "causeway/causewaylaw20.NodeEpochs", spec := "nodeEpochs", unfollowed := true, recurses := true, apart := false, narrowed := true }
def NodeEpochsUptoSaid : Prop := nodeEpochsUptoRow.holds Tryz.pinned (OpenSpec.upto nodeEpochsSpec)

end Rows
end Go.Proofs.YthebagfahkebiaaGreat
