-- PRINTED BY print.sh 35421559b90ae4d0a3588c463048766b98c2df88dd9212a6774a882060cdf62d: not written by this session
import Derived.Test.YtfhhmehlkjaibaaDoorProg
import Derived.Below
import Derived.Deep.Draws
import Derived.Deep.AppendLies
import Derived.Maps.AppendAt
import Derived.OwnWalk
import Derived.Laws.BytesArg
import Derived.Laws.MakeOwn
import Derived.Laws.OwnMore
import Derived.Deep.OwnRows
import Derived.Tactics
import Derived.Lib.ConvBytes
import Derived.Laws.Slices
import Derived.WalkKit
import Derived.KernelRfl
import Derived.RowKit3
import Derived.Deep.LoopGhost
import Derived.Deep.QuietTactic
import Derived.BigQuiet
import Derived.WideLaws
import Derived.Deep.DeepCutAuto
import Derived.Deep.CutBlock
import Derived.Deep.RegionHeld3
import Derived.Laws.Rows
import Derived.Lib.AppendStr
import Derived.ArgAppend
import Derived.Laws.IdiomCopy
import Derived.OrdersHeld
import Derived.Laws.BitsLemmas
import Derived.RowKit
import Derived.Test.YtfhhmehlkjaibaaDoorWWords
import Derived.Test.YtfhhmehlkjaibaaDoorWLast
import Derived.Test.YtfhhmehlkjaibaaDoorWTab
import Derived.Test.YtfhhmehlkjaibaaDoorWFour
import Derived.Test.YtfhhmehlkjaibaaDoorWQPut
import Derived.Test.YtfhhmehlkjaibaaDoorWApart
import Derived.Test.YtfhhmehlkjaibaaDoorWArr
import Derived.Test.YtfhhmehlkjaibaaDoorWZeros
import Derived.Test.YtfhhmehlkjaibaaDoorWFoot
import Derived.Test.YtfhhmehlkjaibaaDoorWKept
import Derived.Test.YtfhhmehlkjaibaaDoorWShare
import Derived.Test.YtfhhmehlkjaibaaDoorWN
import Derived.Test.YtfhhmehlkjaibaaDoorWFootNe
import Derived.Test.YtfhhmehlkjaibaaDoorWAt
import Derived.Test.YtfhhmehlkjaibaaDoorWEqStruct
import Derived.Test.YtfhhmehlkjaibaaDoorWRepsOne
import Derived.Test.YtfhhmehlkjaibaaDoorWInv
import Derived.Test.YtfhhmehlkjaibaaDoorWInvWords
import Derived.Test.YtfhhmehlkjaibaaDoorWGuard
import Derived.Test.YtfhhmehlkjaibaaDoorWNEv
import Derived.Test.YtfhhmehlkjaibaaDoorWMore
namespace Go.Proofs.YtfhhmehlkjaibaaDoor.PWhyChains
open Go.RowKit Go.Proofs.YtfhhmehlkjaibaaDoorW.PrintWords Go.Proofs.YtfhhmehlkjaibaaDoorW.PrintLast Go.Proofs.YtfhhmehlkjaibaaDoorW.PrintMore
attribute [local go_sem] max2_int min2_int max_two min_two max_three min_three max_four min_four   -- for this text's walks alone
set_option linter.unusedVariables false
set_option linter.unusedSimpArgs false



def errW : Option Int → Value
  | none => .nilIface
  | some c => .iface 22 (.int .i64 c)
theorem errW_none : errW none = .nilIface := rfl
theorem errW_some (c : Int) : errW (some c) = .iface 22 (.int .i64 c) := rfl

theorem info3 : (Tryd.prog.info? 3).map (fun i => (i.zero, i.size, i.bytes)) = some (some (.int .i64 0), 1, 8) := by kernel_rfl
theorem info9 : (Tryd.prog.info? 9).map (fun i => (i.zero, i.size, i.bytes)) = some (some (.string ⟨#[]⟩), 1, 16) := by kernel_rfl
-- the values' own types

end Go.Proofs.YtfhhmehlkjaibaaDoor.PWhyChains
