/-
  Two facts on the whole program that each statement's end asks.
-/
import Derived.Test.YtllopddalmdbjaaTy
import Derived.Test.YtllopddalmdbjaaSlT
import Derived.Test.YtllopddalmdbjaaRows
namespace Go.Proofs.Ytllopddalmdbjaa
open Go Go.Sl

theorem Try.own : ownKnob Try.prog.godebug = none := by kernel_rfl
theorem Try.laidOut : laidOutB Try.prog = true := by kernel_rfl
end Go.Proofs.Ytllopddalmdbjaa
