/- Wheel: New. -/
import Derived.Test.YtdakkmaahgcjfaaDoorWhi
set_option linter.unusedVariables false
set_option linter.unusedSimpArgs false
namespace Go.Proofs.YtdakkmaahgcjfaaDoor
open Go.RowKit

def noSl : Nat → Nat → Option Nat := fun _ _ => none
def noFull : Nat → Nat := fun _ => 0
set_option maxRecDepth 1000000 in
theorem zero68 (now tb ob : Nat) : ((Tryd.zeroCells68.setIfInBounds 0 (.int .u64 (now : Int))).setIfInBounds 1 (.map (some tb))).setIfInBounds 717 (.map (some ob)) = WC now tb ob noSl noFull := by kernel_rfl
end Go.Proofs.YtdakkmaahgcjfaaDoor
