/-
  No cell of these rows narrows 'for every input' (looked for: loops, veiled, ifaces, maps, wideKeys, modest, calm, conditions, laid).
  DERIVED. THE GIVEN ROWS OF THIS SEAT. 4 by the template 'for every input the law returns true; each argument reads behind the call as it read before'; 0 by the template 'total and deterministic' (their statements: YtihaajncebdioaaTotals.lean).
  GIVEN WITH THE SEED: the statements are not yours to turn. If you find one false, say at which input.
  Laid BY PROGRAM, IN A SANDBOX (cutbox-rows.mjs): the forced cells as the released guide's own fill.sh prints them over the translation 032cff722aff6a6f… (all of the seat's roots in one cut). By AI agents, Wed Nov 11 2026. No macro, syntax, notation, axiom, sorry.
-/
import Derived.Test.YtihaajncebdioaaChecked
import GoSem.Claim
import GoSem.ClaimJoined
import GoSem.ClaimMapViews
import Derived.JoinedTies
import Derived.KernelRfl
namespace Go.Proofs.Ytihaajncebdioaa
/- THE CELL 'sum', in the pinned program and in every row, IS THE sha256 OF THE DUMP (.gsa) THAT YtihaajncebdioaaProg.lean LOADS. Nothing in Lean hashes anything: it is a label: what it is worth is what the hold of that sum in a sandbox is worth. -/
noncomputable def Try.pinned : Pinned := { name := "ytihaajncebdioaa", sum := "032cff722aff6a6fb8946f5aa4a6e1ee8567267607707d20c5c4f9c631f486b2", checked := Try.checked }
namespace Rows
def none {H : Type} : Left H := { results := [], args := [] }

/-- 'causewaylaw8.WalGoes': WHATEVER THE INPUT: true; the input reads as it did. -/
def walGoesSpec : ChangeSpec := { name := "walGoes", fn := fun _ => fun
  | [d1, d2] => { results := [.lit (.bool true)], args := [d1, d2] }
  | _ => none }
def walGoesRow : OpenClaim := { program := "ytihaajncebdioaa", sum := "032cff722aff6a6fb8946f5aa4a6e1ee8567267607707d20c5c4f9c631f486b2", func := "causeway/causewaylaw8.WalGoes", spec := "walGoes", unfollowed := true, recurses := true, apart := false }
def WalGoesSaid : Prop := walGoesRow.holds Try.pinned (OpenSpec.ofChange walGoesSpec)

/-- ITS FALSE NEIGHBOUR: 'it returns false'. Refute it at one input. -/
def walGoesWrong : ChangeSpec := { name := "walGoes", fn := fun _ => fun
  | [d1, d2] => { results := [.lit (.bool false)], args := [d1, d2] }
  | _ => none }
def WalGoesWrongFalsely : Prop := walGoesRow.holds Try.pinned (OpenSpec.ofChange walGoesWrong)

/-- 'causewaylaw8.WalSegments': WHATEVER THE INPUT: true; the input reads as it did. -/
def walSegmentsSpec : ChangeSpec := { name := "walSegments", fn := fun _ => fun
  | [d1, d2] => { results := [.lit (.bool true)], args := [d1, d2] }
  | _ => none }
def walSegmentsRow : OpenClaim := { program := "ytihaajncebdioaa", sum := "032cff722aff6a6fb8946f5aa4a6e1ee8567267607707d20c5c4f9c631f486b2", func := "causeway/causewaylaw8.WalSegments", spec := "walSegments", unfollowed := true, recurses := true, apart := false }
def WalSegmentsSaid : Prop := walSegmentsRow.holds Try.pinned (OpenSpec.ofChange walSegmentsSpec)

/-- ITS FALSE NEIGHBOUR: 'it returns false'. Refute it at one input. -/
def walSegmentsWrong : ChangeSpec := { name := "walSegments", fn := fun _ => fun
  | [d1, d2] => { results := [.lit (.bool false)], args := [d1, d2] }
  | _ => none }
def WalSegmentsWrongFalsely : Prop := walSegmentsRow.holds Try.pinned (OpenSpec.ofChange walSegmentsWrong)

/-- 'causewaylaw8.WalKeeps': WHATEVER THE INPUT: true; the input reads as it did. -/
def walKeepsSpec : ChangeSpec := { name := "walKeeps", fn := fun _ => fun
  | [d1, d2] => { results := [.lit (.bool true)], args := [d1, d2] }
  | _ => none }
def walKeepsRow : OpenClaim := { program := "ytihaajncebdioaa", sum := "032cff722aff6a6fb8946f5aa4a6e1ee8567267607707d20c5c4f9c631f486b2", func := "causeway/causewaylaw8.WalKeeps", spec := "walKeeps", unfollowed := true, recurses := true, apart := false }
def WalKeepsSaid : Prop := walKeepsRow.holds Try.pinned (OpenSpec.ofChange walKeepsSpec)

/-- ITS FALSE NEIGHBOUR: 'it returns false'. Refute it at one input. -/
def walKeepsWrong : ChangeSpec := { name := "walKeeps", fn := fun _ => fun
  | [d1, d2] => { results := [.lit (.bool false)], args := [d1, d2] }
  | _ => none }
def WalKeepsWrongFalsely : Prop := walKeepsRow.holds Try.pinned (OpenSpec.ofChange walKeepsWrong)

/-- 'causewaylaw8.WalCuts': WHATEVER THE INPUT: true; the input reads as it did. -/
def walCutsSpec : ChangeSpec := { name := "walCuts", fn := fun _ => fun
  | [d1, d2] => { results := [.lit (.bool true)], args := [d1, d2] }
  | _ => none }
def walCutsRow : OpenClaim := { program := "ytihaajncebdioaa", sum := "032cff722aff6a6fb8946f5aa4a6e1ee8567267607707d20c5c4f9c631f486b2", func := "causeway/causewaylaw8.WalCuts", spec := "walCuts", unfollowed := true, recurses := true, apart := false }
def WalCutsSaid : Prop := walCutsRow.holds Try.pinned (OpenSpec.ofChange walCutsSpec)

/-- ITS FALSE NEIGHBOUR: 'it returns false'. Refute it at one input. -/
def walCutsWrong : ChangeSpec := { name := "walCuts", fn := fun _ => fun
  | [d1, d2] => { results := [.lit (.bool false)], args := [d1, d2] }
  | _ => none }
def WalCutsWrongFalsely : Prop := walCutsRow.holds Try.pinned (OpenSpec.ofChange walCutsWrong)

/- THE SECOND FORM. 'bulk': how many values and letters a reading holds, each counted each time it is reached (what is shared counts as often as it is met; a slice's spare places count too). A statement '..UptoSaid' is the law's where the arguments, and the package variables that the reading takes, are together of bulk at most 1048576: NARROWER than '..Said'. Prove '..Said' where nothing that the law and all that it calls make is longer than what came in: it says more and counts as full. Else prove '..UptoSaid'. A law counts once. -/
mutual
def uptoBulk {H : Type} : DataW H → Nat
  | .lit (.string bytes) => bytes.length + 1
  | .lit _ => 1
  | .nil => 1
  | .ptr d => uptoBulk d + 1
  | .slice elems spare => uptoBulkAll elems + uptoBulkAll spare + 1
  | .agg parts => uptoBulkAll parts + 1
  | .iface _ d => uptoBulk d + 1
  | .map entries => uptoBulkEntries entries + 1
  | .held _ => 1
def uptoBulkAll {H : Type} : List (DataW H) → Nat
  | [] => 0
  | d :: r => uptoBulk d + uptoBulkAll r
def uptoBulkEntries {H : Type} : List (Lit × DataW H) → Nat
  | [] => 0
  | x :: r => uptoBulkEntry x + uptoBulkEntries r
def uptoBulkEntry {H : Type} : Lit × DataW H → Nat
  | (.string bytes, d) => bytes.length + uptoBulk d + 1
  | (_, d) => uptoBulk d + 1
 end
def uptoSmall : (H : Type) → List (DataW H) → Bool := fun _ ds => decide (uptoBulkAll ds ≤ 1048576)
def OpenSpec.upto (s : _root_.Go.ChangeSpec) : _root_.Go.OpenSpec := { _root_.Go.OpenSpec.ofChange s with cond := some uptoSmall }

/-- 'causewaylaw8.WalGoes', WHERE WHAT IT READS IS OF BULK AT MOST 1048576: true; the input reads as it did. -/
def walGoesUptoRow : OpenClaim := { program := "ytihaajncebdioaa", sum := "032cff722aff6a6fb8946f5aa4a6e1ee8567267607707d20c5c4f9c631f486b2", func := "causeway/causewaylaw8.WalGoes", spec := "walGoes", unfollowed := true, recurses := true, apart := false, narrowed := true }
def WalGoesUptoSaid : Prop := walGoesUptoRow.holds Try.pinned (OpenSpec.upto walGoesSpec)

/-- 'causewaylaw8.WalSegments', WHERE WHAT IT READS IS OF BULK AT MOST 1048576: true; the input reads as it did. -/
def walSegmentsUptoRow : OpenClaim := { program := "ytihaajncebdioaa", sum := "032cff722aff6a6fb8946f5aa4a6e1ee8567267607707d20c5c4f9c631f486b2", func := "causeway/causewaylaw8.WalSegments", spec := "walSegments", unfollowed := true, recurses := true, apart := false, narrowed := true }
def WalSegmentsUptoSaid : Prop := walSegmentsUptoRow.holds Try.pinned (OpenSpec.upto walSegmentsSpec)

/-- 'causewaylaw8.WalKeeps', WHERE WHAT IT READS IS OF BULK AT MOST 1048576: true; the input reads as it did. -/
def walKeepsUptoRow : OpenClaim := { program := "ytihaajncebdioaa", sum := "032cff722aff6a6fb8946f5aa4a6e1ee8567267607707d20c5c4f9c631f486b2", func := "causeway/causewaylaw8.WalKeeps", spec := "walKeeps", unfollowed := true, recurses := true, apart := false, narrowed := true }
def WalKeepsUptoSaid : Prop := walKeepsUptoRow.holds Try.pinned (OpenSpec.upto walKeepsSpec)

/-- 'causewaylaw8.WalCuts', WHERE WHAT IT READS IS OF BULK AT MOST 1048576: true; the input reads as it did. -/
def walCutsUptoRow : OpenClaim := { program := "ytihaajncebdioaa", sum := "032cff722aff6a6fb8946f5aa4a6e1ee8567267607707d20c5c4f9c631f486b2", func := "causeway/causewaylaw8.WalCuts", spec := "walCuts", unfollowed := true, recurses := true, apart := false, narrowed := true }
def WalCutsUptoSaid : Prop := walCutsUptoRow.holds Try.pinned (OpenSpec.upto walCutsSpec)

end Rows
end Go.Proofs.Ytihaajncebdioaa
