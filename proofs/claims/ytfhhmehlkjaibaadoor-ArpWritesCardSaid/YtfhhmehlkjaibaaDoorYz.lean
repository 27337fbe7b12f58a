/- Yz -/
import Derived.Test.YtfhhmehlkjaibaaDoorSi
import Derived.BigQuiet
import Derived.BigRegion
import Derived.Deep.DeepMust
import Derived.Deep.QuietTactic
import Derived.Laws.Bits64b
import Derived.Laws.BitsAllLaws
import Derived.Laws.OwnMore
import Derived.Laws.ShiftsVar
import Derived.Lib.Hide
import Derived.Lib.TrailingZeros
import Derived.LoopTactic
import Derived.Maps.AppendAt
import Derived.Outline
import Derived.OwnWalk
import Derived.RegionTactic
set_option linter.unusedVariables false
set_option linter.unusedSimpArgs false
namespace Go.Proofs.YtfhhmehlkjaibaaDoor
open Go.RowKit

theorem ret_bool {a b : Bool} (h : a = b) : Ending.returned (.bool a) = .returned (.bool b) := by rw [h]
theorem intInfo : (Tryd.prog.info? 3).map (fun i => (i.zero, i.size, i.bytes)) = some (some (.int .i64 0), 1, 8) := by kernel_rfl
def ints (xs : List Int) : List Value := xs.map fun x => .int .i64 x
end Go.Proofs.YtfhhmehlkjaibaaDoor
