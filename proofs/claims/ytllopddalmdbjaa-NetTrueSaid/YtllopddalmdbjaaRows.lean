/-
  No cell of these rows narrows 'for every input' (looked for: loops, veiled, ifaces, maps, wideKeys, modest, calm, conditions, laid).
  DERIVED. THE GIVEN ROWS OF THIS SEAT. 9 by the template 'for every input the law returns true; each argument reads behind the call as it read before'; 0 by the template 'total and deterministic' (their statements: YtllopddalmdbjaaTotals.lean).
  GIVEN WITH THE SEED: the statements are not yours to turn. If you find one false, say at which input.
  Laid BY PROGRAM, IN A SANDBOX (cutbox-rows.mjs): the forced cells as the released guide's own fill.sh prints them over the translation 907ec8f46613927d… (all of the seat's roots in one cut). By AI agents, Wed Nov 11 2026. No macro, syntax, notation, axiom, sorry.
-/
import Derived.Test.YtllopddalmdbjaaChecked
import GoSem.Claim
import GoSem.ClaimJoined
import GoSem.ClaimMapViews
import Derived.JoinedTies
import Derived.KernelRfl
namespace Go.Proofs.Ytllopddalmdbjaa
/- THE CELL 'sum', in the pinned program and in every row, IS THE sha256 OF THE DUMP (.gsa) THAT YtllopddalmdbjaaProg.lean LOADS. Nothing in Lean hashes anything: it is a label: what it is worth is what the hold of that sum in a sandbox is worth. -/
noncomputable def Try.pinned : Pinned := { name := "ytllopddalmdbjaa", sum := "907ec8f46613927d367bf959db7a0a8444a8a793f9eb1308b0d771af8def1c92", checked := Try.checked }
namespace Rows
def none {H : Type} : Left H := { results := [], args := [] }

/-- 'causewaylaw13.WatchPlays': WHATEVER THE INPUT: true; the input reads as it did. -/
def watchPlaysSpec : ChangeSpec := { name := "watchPlays", fn := fun _ => fun
  | [d1, d2, d3] => { results := [.lit (.bool true)], args := [d1, d2, d3] }
  | _ => none }
def watchPlaysRow : OpenClaim := { program := "ytllopddalmdbjaa", sum := "907ec8f46613927d367bf959db7a0a8444a8a793f9eb1308b0d771af8def1c92", func := "causeway/causewaylaw13.WatchPlays", spec := "watchPlays", apart := false }
def WatchPlaysSaid : Prop := watchPlaysRow.holds Try.pinned (OpenSpec.ofChange watchPlaysSpec)

/-- ITS FALSE NEIGHBOUR: 'it returns false'. Refute it at one input. -/
def watchPlaysWrong : ChangeSpec := { name := "watchPlays", fn := fun _ => fun
  | [d1, d2, d3] => { results := [.lit (.bool false)], args := [d1, d2, d3] }
  | _ => none }
def WatchPlaysWrongFalsely : Prop := watchPlaysRow.holds Try.pinned (OpenSpec.ofChange watchPlaysWrong)

/-- 'causewaylaw13.WatchSince': WHATEVER THE INPUT: true; the input reads as it did. -/
def watchSinceSpec : ChangeSpec := { name := "watchSince", fn := fun _ => fun
  | [d1, d2, d3] => { results := [.lit (.bool true)], args := [d1, d2, d3] }
  | _ => none }
def watchSinceRow : OpenClaim := { program := "ytllopddalmdbjaa", sum := "907ec8f46613927d367bf959db7a0a8444a8a793f9eb1308b0d771af8def1c92", func := "causeway/causewaylaw13.WatchSince", spec := "watchSince", apart := false }
def WatchSinceSaid : Prop := watchSinceRow.holds Try.pinned (OpenSpec.ofChange watchSinceSpec)

/-- ITS FALSE NEIGHBOUR: 'it returns false'. Refute it at one input. -/
def watchSinceWrong : ChangeSpec := { name := "watchSince", fn := fun _ => fun
  | [d1, d2, d3] => { results := [.lit (.bool false)], args := [d1, d2, d3] }
  | _ => none }
def WatchSinceWrongFalsely : Prop := watchSinceRow.holds Try.pinned (OpenSpec.ofChange watchSinceWrong)

/-- 'causewaylaw13.WatchRow': WHATEVER THE INPUT: true; the input reads as it did. -/
def watchRowSpec : ChangeSpec := { name := "watchRow", fn := fun _ => fun
  | [d1, d2, d3, d4] => { results := [.lit (.bool true)], args := [d1, d2, d3, d4] }
  | _ => none }
def watchRowRow : OpenClaim := { program := "ytllopddalmdbjaa", sum := "907ec8f46613927d367bf959db7a0a8444a8a793f9eb1308b0d771af8def1c92", func := "causeway/causewaylaw13.WatchRow", spec := "watchRow", apart := false }
def WatchRowSaid : Prop := watchRowRow.holds Try.pinned (OpenSpec.ofChange watchRowSpec)

/-- ITS FALSE NEIGHBOUR: 'it returns false'. Refute it at one input. -/
def watchRowWrong : ChangeSpec := { name := "watchRow", fn := fun _ => fun
  | [d1, d2, d3, d4] => { results := [.lit (.bool false)], args := [d1, d2, d3, d4] }
  | _ => none }
def WatchRowWrongFalsely : Prop := watchRowRow.holds Try.pinned (OpenSpec.ofChange watchRowWrong)

/-- 'causewaylaw18.ShipAll': WHATEVER THE INPUT: true; the input reads as it did. -/
def shipAllSpec : ChangeSpec := { name := "shipAll", fn := fun _ => fun
  | [d1, d2] => { results := [.lit (.bool true)], args := [d1, d2] }
  | _ => none }
def shipAllRow : OpenClaim := { program := "ytllopddalmdbjaa", sum := "907ec8f46613927d367bf959db7a0a8444a8a793f9eb1308b0d771af8def1c92", func := "causeway/causewaylaw18.ShipAll", spec := "shipAll", apart := false }
def ShipAllSaid : Prop := shipAllRow.holds Try.pinned (OpenSpec.ofChange shipAllSpec)

/-- ITS FALSE NEIGHBOUR: 'it returns false'. Refute it at one input. -/
def shipAllWrong : ChangeSpec := { name := "shipAll", fn := fun _ => fun
  | [d1, d2] => { results := [.lit (.bool false)], args := [d1, d2] }
  | _ => none }
def ShipAllWrongFalsely : Prop := shipAllRow.holds Try.pinned (OpenSpec.ofChange shipAllWrong)

/-- 'causewaylaw10.NetRow': WHATEVER THE INPUT: true; the input reads as it did. -/
def netRowSpec : ChangeSpec := { name := "netRow", fn := fun _ => fun
  | [d] => { results := [.lit (.bool true)], args := [d] }
  | _ => none }
def netRowRow : OpenClaim := { program := "ytllopddalmdbjaa", sum := "907ec8f46613927d367bf959db7a0a8444a8a793f9eb1308b0d771af8def1c92", func := "causeway/causewaylaw10.NetRow", spec := "netRow", apart := false }
def NetRowSaid : Prop := netRowRow.holds Try.pinned (OpenSpec.ofChange netRowSpec)

/-- ITS FALSE NEIGHBOUR: 'it returns false'. Refute it at one input. -/
def netRowWrong : ChangeSpec := { name := "netRow", fn := fun _ => fun
  | [d] => { results := [.lit (.bool false)], args := [d] }
  | _ => none }
def NetRowWrongFalsely : Prop := netRowRow.holds Try.pinned (OpenSpec.ofChange netRowWrong)

/-- 'causewaylaw10.NetApart': WHATEVER THE INPUT: true; the input reads as it did. -/
def netApartSpec : ChangeSpec := { name := "netApart", fn := fun _ => fun
  | [d1, d2, d3] => { results := [.lit (.bool true)], args := [d1, d2, d3] }
  | _ => none }
def netApartRow : OpenClaim := { program := "ytllopddalmdbjaa", sum := "907ec8f46613927d367bf959db7a0a8444a8a793f9eb1308b0d771af8def1c92", func := "causeway/causewaylaw10.NetApart", spec := "netApart", apart := false }
def NetApartSaid : Prop := netApartRow.holds Try.pinned (OpenSpec.ofChange netApartSpec)

/-- ITS FALSE NEIGHBOUR: 'it returns false'. Refute it at one input. -/
def netApartWrong : ChangeSpec := { name := "netApart", fn := fun _ => fun
  | [d1, d2, d3] => { results := [.lit (.bool false)], args := [d1, d2, d3] }
  | _ => none }
def NetApartWrongFalsely : Prop := netApartRow.holds Try.pinned (OpenSpec.ofChange netApartWrong)

/-- 'causewaylaw10.NetTrue': WHATEVER THE INPUT: true; the input reads as it did. -/
def netTrueSpec : ChangeSpec := { name := "netTrue", fn := fun _ => fun
  | [d] => { results := [.lit (.bool true)], args := [d] }
  | _ => none }
def netTrueRow : OpenClaim := { program := "ytllopddalmdbjaa", sum := "907ec8f46613927d367bf959db7a0a8444a8a793f9eb1308b0d771af8def1c92", func := "causeway/causewaylaw10.NetTrue", spec := "netTrue", apart := false }
def NetTrueSaid : Prop := netTrueRow.holds Try.pinned (OpenSpec.ofChange netTrueSpec)

/-- ITS FALSE NEIGHBOUR: 'it returns false'. Refute it at one input. -/
def netTrueWrong : ChangeSpec := { name := "netTrue", fn := fun _ => fun
  | [d] => { results := [.lit (.bool false)], args := [d] }
  | _ => none }
def NetTrueWrongFalsely : Prop := netTrueRow.holds Try.pinned (OpenSpec.ofChange netTrueWrong)

/-- 'causewaylaw10.NetPlays': WHATEVER THE INPUT: true; the input reads as it did. -/
def netPlaysSpec : ChangeSpec := { name := "netPlays", fn := fun _ => fun
  | [d] => { results := [.lit (.bool true)], args := [d] }
  | _ => none }
def netPlaysRow : OpenClaim := { program := "ytllopddalmdbjaa", sum := "907ec8f46613927d367bf959db7a0a8444a8a793f9eb1308b0d771af8def1c92", func := "causeway/causewaylaw10.NetPlays", spec := "netPlays", apart := false }
def NetPlaysSaid : Prop := netPlaysRow.holds Try.pinned (OpenSpec.ofChange netPlaysSpec)

/-- ITS FALSE NEIGHBOUR: 'it returns false'. Refute it at one input. -/
def netPlaysWrong : ChangeSpec := { name := "netPlays", fn := fun _ => fun
  | [d] => { results := [.lit (.bool false)], args := [d] }
  | _ => none }
def NetPlaysWrongFalsely : Prop := netPlaysRow.holds Try.pinned (OpenSpec.ofChange netPlaysWrong)

/-- 'causewaylaw10.NetCounts': WHATEVER THE INPUT: true; the input reads as it did. -/
def netCountsSpec : ChangeSpec := { name := "netCounts", fn := fun _ => fun
  | [d1, d2] => { results := [.lit (.bool true)], args := [d1, d2] }
  | _ => none }
def netCountsRow : OpenClaim := { program := "ytllopddalmdbjaa", sum := "907ec8f46613927d367bf959db7a0a8444a8a793f9eb1308b0d771af8def1c92", func := "causeway/causewaylaw10.NetCounts", spec := "netCounts", apart := false }
def NetCountsSaid : Prop := netCountsRow.holds Try.pinned (OpenSpec.ofChange netCountsSpec)

/-- ITS FALSE NEIGHBOUR: 'it returns false'. Refute it at one input. -/
def netCountsWrong : ChangeSpec := { name := "netCounts", fn := fun _ => fun
  | [d1, d2] => { results := [.lit (.bool false)], args := [d1, d2] }
  | _ => none }
def NetCountsWrongFalsely : Prop := netCountsRow.holds Try.pinned (OpenSpec.ofChange netCountsWrong)

/- THE SECOND FORM. 'bulk': how many values and letters a reading holds, each counted each time it is reached (what is shared counts as often as it is met; a slice's spare places count too). A statement '..UptoSaid' is the law's where the arguments, and the package variables that the reading takes, are together of bulk at most 1048576: NARROWER than '..Said'. Prove '..Said' where nothing that the law and all that it calls make is longer than what came in: it says more and counts as full. Else prove '..UptoSaid'. A law counts once. -/
mutual
def uptoBulk {H : Type} : DataW H → Nat
  | .lit (.string bytes) => bytes.length + 1
  | .lit _ => 1
  | .nil => 1
  | .ptr d => uptoBulk d + 1
  | .slice elems spare => uptoBulkAll elems + uptoBulkAll spare + 1
  | .agg parts => uptoBulkAll parts + 1
  | .iface _ d => uptoBulk d + 1
  | .map entries => uptoBulkEntries entries + 1
  | .held _ => 1
def uptoBulkAll {H : Type} : List (DataW H) → Nat
  | [] => 0
  | d :: r => uptoBulk d + uptoBulkAll r
def uptoBulkEntries {H : Type} : List (Lit × DataW H) → Nat
  | [] => 0
  | x :: r => uptoBulkEntry x + uptoBulkEntries r
def uptoBulkEntry {H : Type} : Lit × DataW H → Nat
  | (.string bytes, d) => bytes.length + uptoBulk d + 1
  | (_, d) => uptoBulk d + 1
 end
def uptoSmall : (H : Type) → List (DataW H) → Bool := fun _ ds => decide (uptoBulkAll ds ≤ 1048576)
def OpenSpec.upto (s : _root_.Go.ChangeSpec) : _root_.Go.OpenSpec := { _root_.Go.OpenSpec.ofChange s with cond := some uptoSmall }

/-- 'causewaylaw13.WatchPlays', WHERE WHAT IT READS IS OF BULK AT MOST 1048576: true; the input reads as it did. -/
def watchPlaysUptoRow : OpenClaim := { program := "ytllopddalmdbjaa", sum := "907ec8f46613927d367bf959db7a0a8444a8a793f9eb1308b0d771af8def1c92", func := "causeway/causewaylaw13.WatchPlays", spec := "watchPlays", apart := false, narrowed := true }
def WatchPlaysUptoSaid : Prop := watchPlaysUptoRow.holds Try.pinned (OpenSpec.upto watchPlaysSpec)

/-- 'causewaylaw13.WatchSince', WHERE WHAT IT READS IS OF BULK AT MOST 1048576: true; the input reads as it did. -/
def watchSinceUptoRow : OpenClaim := { program := "ytllopddalmdbjaa", sum := "907ec8f46613927d367bf959db7a0a8444a8a793f9eb1308b0d771af8def1c92", func := "causeway/causewaylaw13.WatchSince", spec := "watchSince", apart := false, narrowed := true }
def WatchSinceUptoSaid : Prop := watchSinceUptoRow.holds Try.pinned (OpenSpec.upto watchSinceSpec)

/-- 'causewaylaw13.WatchRow', WHERE WHAT IT READS IS OF BULK AT MOST 1048576: true; the input reads as it did. -/
def watchRowUptoRow : OpenClaim := { program := "ytllopddalmdbjaa", sum := "907ec8f46613927d367bf959db7a0a8444a8a793f9eb1308b0d771af8def1c92", func := "causeway/causewaylaw13.WatchRow", spec := "watchRow", apart := false, narrowed := true }
def WatchRowUptoSaid : Prop := watchRowUptoRow.holds Try.pinned (OpenSpec.upto watchRowSpec)

/-- 'causewaylaw18.ShipAll', WHERE WHAT IT READS IS OF BULK AT MOST 1048576: true; the input reads as it did. -/
def shipAllUptoRow : OpenClaim := { program := "ytllopddalmdbjaa", sum := "907ec8f46613927d367bf959db7a0a8444a8a793f9eb1308b0d771af8def1c92", func := "causeway/causewaylaw18.ShipAll", spec := "shipAll", apart := false, narrowed := true }
def ShipAllUptoSaid : Prop := shipAllUptoRow.holds Try.pinned (OpenSpec.upto shipAllSpec)

/-- 'causewaylaw10.NetRow', WHERE WHAT IT READS IS OF BULK AT MOST 1048576: true; the input reads as it did. -/
def netRowUptoRow : OpenClaim := { program := "ytllopddalmdbjaa", sum := "907ec8f46613927d367bf959db7a0a8444a8a793f9eb1308b0d771af8def1c92", func := "causeway/causewaylaw10.NetRow", spec := "netRow", apart := false, narrowed := true }
def NetRowUptoSaid : Prop := netRowUptoRow.holds Try.pinned (OpenSpec.upto netRowSpec)

/-- 'causewaylaw10.NetApart', WHERE WHAT IT READS IS OF BULK AT MOST 1048576: true; the input reads as it did. -/
def netApartUptoRow : OpenClaim := { program := "ytllopddalmdbjaa", sum := "907ec8f46613927d367bf959db7a0a8444a8a793f9eb1308b0d771af8def1c92", func := "causeway/causewaylaw10.NetApart", spec := "netApart", apart := false, narrowed := true }
def NetApartUptoSaid : Prop := netApartUptoRow.holds Try.pinned (OpenSpec.upto netApartSpec)

/-- 'causewaylaw10.NetTrue', WHERE WHAT IT READS IS OF BULK AT MOST 1048576: true; the input reads as it did. -/
def netTrueUptoRow : OpenClaim := { program := "ytllopddalmdbjaa", sum := "907ec8f46613927d367bf959db7a0a8444a8a793f9eb1308b0d771af8def1c92", func := "causeway/causewaylaw10.NetTrue", spec := "netTrue", apart := false, narrowed := true }
def NetTrueUptoSaid : Prop := netTrueUptoRow.holds Try.pinned (OpenSpec.upto netTrueSpec)

/-- 'causewaylaw10.NetPlays', WHERE WHAT IT READS IS OF BULK AT MOST 1048576: true; the input reads as it did. -/
def netPlaysUptoRow : OpenClaim := { program := "ytllopddalmdbjaa", sum := "907ec8f46613927d367bf959db7a0a8444a8a793f9eb1308b0d771af8def1c92", func := "causeway/causewaylaw10.NetPlays", spec := "netPlays", apart := false, narrowed := true }
def NetPlaysUptoSaid : Prop := netPlaysUptoRow.holds Try.pinned (OpenSpec.upto netPlaysSpec)

/-- 'causewaylaw10.NetCounts', WHERE WHAT IT READS IS OF BULK AT MOST 1048576: true; the input reads as it did. -/
def netCountsUptoRow : OpenClaim := { program := "ytllopddalmdbjaa", sum := "907ec8f46613927d367bf959db7a0a8444a8a793f9eb1308b0d771af8def1c92", func := "causeway/causewaylaw10.NetCounts", spec := "netCounts", apart := false, narrowed := true }
def NetCountsUptoSaid : Prop := netCountsUptoRow.holds Try.pinned (OpenSpec.upto netCountsSpec)

end Rows
end Go.Proofs.Ytllopddalmdbjaa
