/-
  No cell of these rows narrows 'for every input' (looked for: loops, veiled, ifaces, maps, wideKeys, modest, calm, conditions, laid).
  DERIVED. THE GIVEN ROWS OF THIS SEAT. 7 by the template 'for every input the law returns true; each argument reads behind the call as it read before'; 0 by the template 'total and deterministic' (their statements: YtejfahjgfedliaaGreatTotals.lean).
  GIVEN WITH THE SEED: the statements are not yours to turn. If you find one false, say at which input.
  Laid BY PROGRAM, IN A SANDBOX (cutbox-rows.mjs): the forced cells as the released guide's own fill.sh prints them over the translation 148b81ccaf95c782… (all of the seat's roots in one cut). By AI agents, Wed Nov 11 2026. No macro, syntax, notation, axiom, sorry.
-/
import Derived.Test.YtejfahjgfedliaaGreatChecked
import GoSem.Claim
import GoSem.ClaimJoined
import GoSem.ClaimMapViews
import Derived.JoinedTies
import Derived.KernelRfl
namespace Go.Proofs.YtejfahjgfedliaaGreat
/- THE CELL 'sum', in the pinned program and in every row, IS THE sha256 OF THE DUMP (.gsa) THAT YtejfahjgfedliaaGreatProg.lean LOADS. Nothing in Lean hashes anything: it is a label: what it is worth is what the hold of that sum in a sandbox is worth. -/
noncomputable def Tryz.pinned : Pinned := { name := "ytejfahjgfedliaagreat", sum := "148b81ccaf95c7821b49d49dbb61c82eb2c01af37915ee295db98c3ea84aaa16", checked := Tryz.checked }
namespace Rows
def none {H : Type} : Left H := { results := [], args := [] }

/-- 'causewaylaw16.LedgerKeeps': WHATEVER THE INPUT: true; the input reads as it did. -/
def ledgerKeepsSpec : ChangeSpec := { name := "ledgerKeeps", fn := fun _ => fun
  | [d1, d2, d3, d4, d5] => { results := [.lit (.bool true)], args := [d1, d2, d3, d4, d5] }
  | _ => none }
def ledgerKeepsRow : OpenClaim := { program := "ytejfahjgfedliaagreat", sum := "148b81ccaf95c7821b49d49dbb61c82eb2c01af37915ee295db98c3ea84aaa16", func := "causeway/causewaylaw16.LedgerKeeps", spec := "ledgerKeeps", unfollowed := true, recurses := true, apart := false }
def LedgerKeepsSaid : Prop := ledgerKeepsRow.holds Tryz.pinned (OpenSpec.ofChange ledgerKeepsSpec)

/-- ITS FALSE NEIGHBOUR: 'it returns false'. Refute it at one input. -/
def ledgerKeepsWrong : ChangeSpec := { name := "ledgerKeeps", fn := fun _ => fun
  | [d1, d2, d3, d4, d5] => { results := [.lit (.bool false)], args := [d1, d2, d3, d4, d5] }
  | _ => none }
def LedgerKeepsWrongFalsely : Prop := ledgerKeepsRow.holds Tryz.pinned (OpenSpec.ofChange ledgerKeepsWrong)

/-- 'causewaylaw16.LedgerTorn': WHATEVER THE INPUT: true; the input reads as it did. -/
def ledgerTornSpec : ChangeSpec := { name := "ledgerTorn", fn := fun _ => fun
  | [d1, d2, d3, d4, d5, d6] => { results := [.lit (.bool true)], args := [d1, d2, d3, d4, d5, d6] }
  | _ => none }
def ledgerTornRow : OpenClaim := { program := "ytejfahjgfedliaagreat", sum := "148b81ccaf95c7821b49d49dbb61c82eb2c01af37915ee295db98c3ea84aaa16", func := "causeway/causewaylaw16.LedgerTorn", spec := "ledgerTorn", unfollowed := true, recurses := true, apart := false }
def LedgerTornSaid : Prop := ledgerTornRow.holds Tryz.pinned (OpenSpec.ofChange ledgerTornSpec)

/-- ITS FALSE NEIGHBOUR: 'it returns false'. Refute it at one input. -/
def ledgerTornWrong : ChangeSpec := { name := "ledgerTorn", fn := fun _ => fun
  | [d1, d2, d3, d4, d5, d6] => { results := [.lit (.bool false)], args := [d1, d2, d3, d4, d5, d6] }
  | _ => none }
def LedgerTornWrongFalsely : Prop := ledgerTornRow.holds Tryz.pinned (OpenSpec.ofChange ledgerTornWrong)

/-- 'causewaylaw16.LedgerTwice': WHATEVER THE INPUT: true; the input reads as it did. -/
def ledgerTwiceSpec : ChangeSpec := { name := "ledgerTwice", fn := fun _ => fun
  | [d1, d2, d3, d4, d5] => { results := [.lit (.bool true)], args := [d1, d2, d3, d4, d5] }
  | _ => none }
def ledgerTwiceRow : OpenClaim := { program := "ytejfahjgfedliaagreat", sum := "148b81ccaf95c7821b49d49dbb61c82eb2c01af37915ee295db98c3ea84aaa16", func := "causeway/causewaylaw16.LedgerTwice", spec := "ledgerTwice", unfollowed := true, recurses := true, apart := false }
def LedgerTwiceSaid : Prop := ledgerTwiceRow.holds Tryz.pinned (OpenSpec.ofChange ledgerTwiceSpec)

/-- ITS FALSE NEIGHBOUR: 'it returns false'. Refute it at one input. -/
def ledgerTwiceWrong : ChangeSpec := { name := "ledgerTwice", fn := fun _ => fun
  | [d1, d2, d3, d4, d5] => { results := [.lit (.bool false)], args := [d1, d2, d3, d4, d5] }
  | _ => none }
def LedgerTwiceWrongFalsely : Prop := ledgerTwiceRow.holds Tryz.pinned (OpenSpec.ofChange ledgerTwiceWrong)

/-- 'causewaylaw16.WorldStable': WHATEVER THE INPUT: true; the input reads as it did. -/
def worldStableSpec : ChangeSpec := { name := "worldStable", fn := fun _ => fun
  | [d1, d2] => { results := [.lit (.bool true)], args := [d1, d2] }
  | _ => none }
def worldStableRow : OpenClaim := { program := "ytejfahjgfedliaagreat", sum := "148b81ccaf95c7821b49d49dbb61c82eb2c01af37915ee295db98c3ea84aaa16", func := "causeway/causewaylaw16.WorldStable", spec := "worldStable", unfollowed := true, recurses := true, apart := false }
def WorldStableSaid : Prop := worldStableRow.holds Tryz.pinned (OpenSpec.ofChange worldStableSpec)

/-- ITS FALSE NEIGHBOUR: 'it returns false'. Refute it at one input. -/
def worldStableWrong : ChangeSpec := { name := "worldStable", fn := fun _ => fun
  | [d1, d2] => { results := [.lit (.bool false)], args := [d1, d2] }
  | _ => none }
def WorldStableWrongFalsely : Prop := worldStableRow.holds Tryz.pinned (OpenSpec.ofChange worldStableWrong)

/-- 'causewaylaw16.WorldHeld': WHATEVER THE INPUT: true; the input reads as it did. -/
def worldHeldSpec : ChangeSpec := { name := "worldHeld", fn := fun _ => fun
  | [d1, d2] => { results := [.lit (.bool true)], args := [d1, d2] }
  | _ => none }
def worldHeldRow : OpenClaim := { program := "ytejfahjgfedliaagreat", sum := "148b81ccaf95c7821b49d49dbb61c82eb2c01af37915ee295db98c3ea84aaa16", func := "causeway/causewaylaw16.WorldHeld", spec := "worldHeld", unfollowed := true, recurses := true, apart := false }
def WorldHeldSaid : Prop := worldHeldRow.holds Tryz.pinned (OpenSpec.ofChange worldHeldSpec)

/-- ITS FALSE NEIGHBOUR: 'it returns false'. Refute it at one input. -/
def worldHeldWrong : ChangeSpec := { name := "worldHeld", fn := fun _ => fun
  | [d1, d2] => { results := [.lit (.bool false)], args := [d1, d2] }
  | _ => none }
def WorldHeldWrongFalsely : Prop := worldHeldRow.holds Tryz.pinned (OpenSpec.ofChange worldHeldWrong)

/-- 'causewaylaw16.WorldPrefixes': WHATEVER THE INPUT: true; the input reads as it did. -/
def worldPrefixesSpec : ChangeSpec := { name := "worldPrefixes", fn := fun _ => fun
  | [d1, d2] => { results := [.lit (.bool true)], args := [d1, d2] }
  | _ => none }
def worldPrefixesRow : OpenClaim := { program := "ytejfahjgfedliaagreat", sum := "148b81ccaf95c7821b49d49dbb61c82eb2c01af37915ee295db98c3ea84aaa16", func := "causeway/causewaylaw16.WorldPrefixes", spec := "worldPrefixes", unfollowed := true, recurses := true, apart := false }
def WorldPrefixesSaid : Prop := worldPrefixesRow.holds Tryz.pinned (OpenSpec.ofChange worldPrefixesSpec)

/-- ITS FALSE NEIGHBOUR: 'it returns false'. Refute it at one input. -/
def worldPrefixesWrong : ChangeSpec := { name := "worldPrefixes", fn := fun _ => fun
  | [d1, d2] => { results := [.lit (.bool false)], args := [d1, d2] }
  | _ => none }
def WorldPrefixesWrongFalsely : Prop := worldPrefixesRow.holds Tryz.pinned (OpenSpec.ofChange worldPrefixesWrong)

/-- 'causewaylaw16.WorldEnds': WHATEVER THE INPUT: true; the input reads as it did. -/
def worldEndsSpec : ChangeSpec := { name := "worldEnds", fn := fun _ => fun
  | [d1, d2] => { results := [.lit (.bool true)], args := [d1, d2] }
  | _ => none }
def worldEndsRow : OpenClaim := { program := "ytejfahjgfedliaagreat", sum := "148b81ccaf95c7821b49d49dbb61c82eb2c01af37915ee295db98c3ea84aaa16", func := "causeway/causewaylaw16.WorldEnds", spec := "worldEnds", unfollowed := true, recurses := true, apart := false }
def WorldEndsSaid : Prop := worldEndsRow.holds Tryz.pinned (OpenSpec.ofChange worldEndsSpec)

/-- ITS FALSE NEIGHBOUR: 'it returns false'. Refute it at one input. -/
def worldEndsWrong : ChangeSpec := { name := "worldEnds", fn := fun _ => fun
  | [d1, d2] => { results := [.lit (.bool false)], args := [d1, d2] }
  | _ => none }
def WorldEndsWrongFalsely : Prop := worldEndsRow.holds Tryz.pinned (OpenSpec.ofChange worldEndsWrong)

/- THE SECOND FORM. 'bulk': how many values and letters a reading holds, each counted each time it is reached (what is shared counts as often as it is met; a slice's spare places count too). A statement '..UptoSaid' is the law's where the arguments, and the package variables that the reading takes, are together of bulk at most 1048576: NARROWER than '..Said'. Prove '..Said' where nothing that the law and all that it calls make is longer than what came in: it says more and counts as full. Else prove '..UptoSaid'. A law counts once. -/
mutual
def uptoBulk {H : Type} : DataW H → Nat
  | .lit (.string bytes) => bytes.length + 1
  | .lit _ => 1
  | .nil => 1
  | .ptr d => uptoBulk d + 1
  | .slice elems spare => uptoBulkAll elems + uptoBulkAll spare + 1
  | .agg parts => uptoBulkAll parts + 1
  | .iface _ d => uptoBulk d + 1
  | .map entries => uptoBulkEntries entries + 1
  | .held _ => 1
def uptoBulkAll {H : Type} : List (DataW H) → Nat
  | [] => 0
  | d :: r => uptoBulk d + uptoBulkAll r
def uptoBulkEntries {H : Type} : List (Lit × DataW H) → Nat
  | [] => 0
  | x :: r => uptoBulkEntry x + uptoBulkEntries r
def uptoBulkEntry {H : Type} : Lit × DataW H → Nat
  | (.string bytes, d) => bytes.length + uptoBulk d + 1
  | (_, d) => uptoBulk d + 1
 end
def uptoSmall : (H : Type) → List (DataW H) → Bool := fun _ ds => decide (uptoBulkAll ds ≤ 1048576)
def OpenSpec.upto (s : _root_.Go.ChangeSpec) : _root_.Go.OpenSpec := { _root_.Go.OpenSpec.ofChange s with cond := some uptoSmall }

/-- 'causewaylaw16.LedgerKeeps', WHERE WHAT IT READS IS OF BULK AT MOST 1048576: true; the input reads as it did. -/
def ledgerKeepsUptoRow : OpenClaim := { program := "ytejfahjgfedliaagreat", sum := "148b81ccaf95c7821b49d49dbb61c82eb2c01af37915ee295db98c3ea84aaa16", func := "causeway/causewaylaw16.LedgerKeeps", spec := "ledgerKeeps", unfollowed := true, recurses := true, apart := false, narrowed := true }
def LedgerKeepsUptoSaid : Prop := ledgerKeepsUptoRow.holds Tryz.pinned (OpenSpec.upto ledgerKeepsSpec)

/-- 'causewaylaw16.LedgerTorn', WHERE WHAT IT READS IS OF BULK AT MOST 1048576: true; the input reads as it did. -/
def ledgerTornUptoRow : OpenClaim := { program := "ytejfahjgfedliaagreat", sum := "148b81ccaf95c7821b49d49dbb61c82eb2c01af37915ee295db98c3ea84aaa16", func := "causeway/causewaylaw16.LedgerTorn", spec := "ledgerTorn", unfollowed := true, recurses := true, apart := false, narrowed := true }
def LedgerTornUptoSaid : Prop := ledgerTornUptoRow.holds Tryz.pinned (OpenSpec.upto ledgerTornSpec)

/-- 'causewaylaw16.LedgerTwice', WHERE WHAT IT READS IS OF BULK AT MOST 1048576: true; the input reads as it did. -/
def ledgerTwiceUptoRow : OpenClaim := { program := "ytejfahjgfedliaagreat", sum := "148b81ccaf95c7821b49d49dbb61c82eb2c01af37915ee295db98c3ea84aaa16", func := "causeway/causewaylaw16.LedgerTwice", spec := "ledgerTwice", unfollowed := true, recurses := true, apart := false, narrowed := true }
def LedgerTwiceUptoSaid : Prop := ledgerTwiceUptoRow.holds Tryz.pinned (OpenSpec.upto ledgerTwiceSpec)

/-- 'causewaylaw16.WorldStable', WHERE WHAT IT READS IS OF BULK AT MOST 1048576: true; the input reads as it did. -/
def worldStableUptoRow : OpenClaim := { program := "ytejfahjgfedliaagreat", sum := "148b81ccaf95c7821b49d49dbb61c82eb2c01af37915ee295db98c3ea84aaa16", func := "causeway/causewaylaw16.WorldStable", spec := "worldStable", unfollowed := true, recurses := true, apart := false, narrowed := true }
def WorldStableUptoSaid : Prop := worldStableUptoRow.holds Tryz.pinned (OpenSpec.upto worldStableSpec)

/-- 'causewaylaw16.WorldHeld', WHERE WHAT IT READS IS OF BULK AT MOST 1048576: true; the input reads as it did. -/
def worldHeldUptoRow : OpenClaim := { program := "ytejfahjgfedliaagreat", sum := "148b81ccaf95c7821b49d49dbb61c82eb2c01af37915ee295db98c3ea84aaa16", func := "causeway/causewaylaw16.WorldHeld", spec := "worldHeld", unfollowed := true, recurses := true, apart := false, narrowed := true }
def WorldHeldUptoSaid : Prop := worldHeldUptoRow.holds Tryz.pinned (OpenSpec.upto worldHeldSpec)

/-- 'causewaylaw16.WorldPrefixes', WHERE WHAT IT READS IS OF BULK AT MOST 1048576: true; the input reads as it did. -/
def worldPrefixesUptoRow : OpenClaim := { program := "ytejfahjgfedliaagreat", sum := "148b81ccaf95c7821b49d49dbb61c82eb2c01af37915ee295db98c3ea84aaa16", func := "causeway/causewaylaw16.WorldPrefixes", spec := "worldPrefixes", unfollowed := true, recurses := true, apart := false, narrowed := true }
def WorldPrefixesUptoSaid : Prop := worldPrefixesUptoRow.holds Tryz.pinned (OpenSpec.upto worldPrefixesSpec)

/-- 'causewaylaw16.WorldEnds', WHERE WHAT IT READS IS OF BULK AT MOST 1048576: true; the input reads as it did. -/
def worldEndsUptoRow : OpenClaim := { program := "ytejfahjgfedliaagreat", sum := "148b81ccaf95c7821b49d49dbb61c82eb2c01af37915ee295db98c3ea84aaa16", func := "causeway/causewaylaw16.WorldEnds", spec := "worldEnds", unfollowed := true, recurses := true, apart := false, narrowed := true }
def WorldEndsUptoSaid : Prop := worldEndsUptoRow.holds Tryz.pinned (OpenSpec.upto worldEndsSpec)

end Rows
end Go.Proofs.YtejfahjgfedliaaGreat
