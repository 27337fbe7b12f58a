/-
  NARROWER THAN 'FOR EVERY INPUT', by the rows' own cells (each row's printed sentence says how): WheelCalls: laid · WheelOnce: laid · WheelSteps: laid · WheelCancels: laid · WheelNext: laid.
  DERIVED. THE GIVEN ROWS OF THIS SEAT. 5 by the template 'for every input the law returns true; each argument reads behind the call as it read before'; 0 by the template 'total and deterministic' (their statements: YtdakkmaahgcjfaaDoorTotals.lean).
  GIVEN WITH THE SEED: the statements are not yours to turn. If you find one false, say at which input.
  Laid BY PROGRAM, IN A SANDBOX (cutbox-rows.mjs): the forced cells as the released guide's own fill.sh prints them over the translation 850ee11ad427956a… (all of the seat's roots in one cut). By AI agents, Wed Nov 11 2026. No macro, syntax, notation, axiom, sorry.
-/
import Derived.Test.YtdakkmaahgcjfaaDoorChecked
import GoSem.Claim
import GoSem.ClaimJoined
import GoSem.ClaimMapViews
import Derived.JoinedTies
import Derived.KernelRfl
namespace Go.Proofs.YtdakkmaahgcjfaaDoor
/- THE CELL 'sum', in the pinned program and in every row, IS THE sha256 OF THE DUMP (.gsa) THAT YtdakkmaahgcjfaaDoorProg.lean LOADS. Nothing in Lean hashes anything: it is a label: what it is worth is what the hold of that sum in a sandbox is worth. -/
noncomputable def Tryd.pinned : Pinned := { name := "ytdakkmaahgcjfaadoor", sum := "850ee11ad427956ad056247aaa9c9d9d3e4049734b493b01eacc4a60650db5aa", checked := Tryd.checked }
namespace Rows
def none {H : Type} : Left H := { results := [], args := [] }

/- WHAT THE LISTED PACKAGE-LEVEL VARIABLES READ AS WHEN THE CALL BEGINS. Each datum BY PROGRAM (the guide's laid-datum.mjs) off the statement by which the dump's own 'gosem.cut.vars' lays the variable. In a bare row this is a premise. The card (YtdakkmaahgcjfaaDoorCards.lean) ties it to the program's text. -/
def laid_math_bits_deBruijn64tab {H : Type} : DataW H := .agg [.lit (.int .u8 0), .lit (.int .u8 1), .lit (.int .u8 56), .lit (.int .u8 2), .lit (.int .u8 57), .lit (.int .u8 49), .lit (.int .u8 28), .lit (.int .u8 3), .lit (.int .u8 61), .lit (.int .u8 58), .lit (.int .u8 42), .lit (.int .u8 50), .lit (.int .u8 38), .lit (.int .u8 29), .lit (.int .u8 17), .lit (.int .u8 4), .lit (.int .u8 62), .lit (.int .u8 47), .lit (.int .u8 59), .lit (.int .u8 36), .lit (.int .u8 45), .lit (.int .u8 43), .lit (.int .u8 51), .lit (.int .u8 22), .lit (.int .u8 53), .lit (.int .u8 39), .lit (.int .u8 33), .lit (.int .u8 30), .lit (.int .u8 24), .lit (.int .u8 18), .lit (.int .u8 12), .lit (.int .u8 5), .lit (.int .u8 63), .lit (.int .u8 55), .lit (.int .u8 48), .lit (.int .u8 27), .lit (.int .u8 60), .lit (.int .u8 41), .lit (.int .u8 37), .lit (.int .u8 16), .lit (.int .u8 46), .lit (.int .u8 35), .lit (.int .u8 44), .lit (.int .u8 21), .lit (.int .u8 52), .lit (.int .u8 32), .lit (.int .u8 23), .lit (.int .u8 11), .lit (.int .u8 54), .lit (.int .u8 26), .lit (.int .u8 40), .lit (.int .u8 15), .lit (.int .u8 34), .lit (.int .u8 20), .lit (.int .u8 31), .lit (.int .u8 10), .lit (.int .u8 25), .lit (.int .u8 14), .lit (.int .u8 19), .lit (.int .u8 9), .lit (.int .u8 13), .lit (.int .u8 8), .lit (.int .u8 7), .lit (.int .u8 6)]

/-- 'vizardlaw13.WheelCalls': WHATEVER THE INPUT: true; the input reads as it did. -/
def wheelCallsSpec : ChangeSpec := { name := "wheelCalls", fn := fun _ => fun
  | [d1, d2, d3] => { results := [.lit (.bool true)], args := [d1, d2, d3] }
  | _ => none }
def wheelCallsRow : OpenClaim := { program := "ytdakkmaahgcjfaadoor", sum := "850ee11ad427956ad056247aaa9c9d9d3e4049734b493b01eacc4a60650db5aa", func := "vizard/vizardlaw13.WheelCalls", spec := "wheelCalls", unfollowed := true, recurses := true, named := ["math/bits.deBruijn64tab"], apart := false, laid := [("math/bits.deBruijn64tab", laid_math_bits_deBruijn64tab)] }
def WheelCallsSaid : Prop := wheelCallsRow.holds Tryd.pinned (OpenSpec.ofChange wheelCallsSpec)

/-- ITS FALSE NEIGHBOUR: 'it returns false'. Refute it at one input. -/
def wheelCallsWrong : ChangeSpec := { name := "wheelCalls", fn := fun _ => fun
  | [d1, d2, d3] => { results := [.lit (.bool false)], args := [d1, d2, d3] }
  | _ => none }
def WheelCallsWrongFalsely : Prop := wheelCallsRow.holds Tryd.pinned (OpenSpec.ofChange wheelCallsWrong)

/-- 'vizardlaw13.WheelOnce': WHATEVER THE INPUT: true; the input reads as it did. -/
def wheelOnceSpec : ChangeSpec := { name := "wheelOnce", fn := fun _ => fun
  | [d1, d2] => { results := [.lit (.bool true)], args := [d1, d2] }
  | _ => none }
def wheelOnceRow : OpenClaim := { program := "ytdakkmaahgcjfaadoor", sum := "850ee11ad427956ad056247aaa9c9d9d3e4049734b493b01eacc4a60650db5aa", func := "vizard/vizardlaw13.WheelOnce", spec := "wheelOnce", unfollowed := true, recurses := true, named := ["math/bits.deBruijn64tab"], apart := false, laid := [("math/bits.deBruijn64tab", laid_math_bits_deBruijn64tab)] }
def WheelOnceSaid : Prop := wheelOnceRow.holds Tryd.pinned (OpenSpec.ofChange wheelOnceSpec)

/-- ITS FALSE NEIGHBOUR: 'it returns false'. Refute it at one input. -/
def wheelOnceWrong : ChangeSpec := { name := "wheelOnce", fn := fun _ => fun
  | [d1, d2] => { results := [.lit (.bool false)], args := [d1, d2] }
  | _ => none }
def WheelOnceWrongFalsely : Prop := wheelOnceRow.holds Tryd.pinned (OpenSpec.ofChange wheelOnceWrong)

/-- 'vizardlaw13.WheelSteps': WHATEVER THE INPUT: true; the input reads as it did. -/
def wheelStepsSpec : ChangeSpec := { name := "wheelSteps", fn := fun _ => fun
  | [d1, d2, d3] => { results := [.lit (.bool true)], args := [d1, d2, d3] }
  | _ => none }
def wheelStepsRow : OpenClaim := { program := "ytdakkmaahgcjfaadoor", sum := "850ee11ad427956ad056247aaa9c9d9d3e4049734b493b01eacc4a60650db5aa", func := "vizard/vizardlaw13.WheelSteps", spec := "wheelSteps", unfollowed := true, recurses := true, named := ["math/bits.deBruijn64tab"], apart := false, laid := [("math/bits.deBruijn64tab", laid_math_bits_deBruijn64tab)] }
def WheelStepsSaid : Prop := wheelStepsRow.holds Tryd.pinned (OpenSpec.ofChange wheelStepsSpec)

/-- ITS FALSE NEIGHBOUR: 'it returns false'. Refute it at one input. -/
def wheelStepsWrong : ChangeSpec := { name := "wheelSteps", fn := fun _ => fun
  | [d1, d2, d3] => { results := [.lit (.bool false)], args := [d1, d2, d3] }
  | _ => none }
def WheelStepsWrongFalsely : Prop := wheelStepsRow.holds Tryd.pinned (OpenSpec.ofChange wheelStepsWrong)

/-- 'vizardlaw13.WheelCancels': WHATEVER THE INPUT: true; the input reads as it did. -/
def wheelCancelsSpec : ChangeSpec := { name := "wheelCancels", fn := fun _ => fun
  | [d1, d2, d3, d4, d5] => { results := [.lit (.bool true)], args := [d1, d2, d3, d4, d5] }
  | _ => none }
def wheelCancelsRow : OpenClaim := { program := "ytdakkmaahgcjfaadoor", sum := "850ee11ad427956ad056247aaa9c9d9d3e4049734b493b01eacc4a60650db5aa", func := "vizard/vizardlaw13.WheelCancels", spec := "wheelCancels", unfollowed := true, recurses := true, named := ["math/bits.deBruijn64tab"], apart := false, laid := [("math/bits.deBruijn64tab", laid_math_bits_deBruijn64tab)] }
def WheelCancelsSaid : Prop := wheelCancelsRow.holds Tryd.pinned (OpenSpec.ofChange wheelCancelsSpec)

/-- ITS FALSE NEIGHBOUR: 'it returns false'. Refute it at one input. -/
def wheelCancelsWrong : ChangeSpec := { name := "wheelCancels", fn := fun _ => fun
  | [d1, d2, d3, d4, d5] => { results := [.lit (.bool false)], args := [d1, d2, d3, d4, d5] }
  | _ => none }
def WheelCancelsWrongFalsely : Prop := wheelCancelsRow.holds Tryd.pinned (OpenSpec.ofChange wheelCancelsWrong)

/-- 'vizardlaw13.WheelNext': WHATEVER THE INPUT: true; the input reads as it did. -/
def wheelNextSpec : ChangeSpec := { name := "wheelNext", fn := fun _ => fun
  | [d1, d2] => { results := [.lit (.bool true)], args := [d1, d2] }
  | _ => none }
def wheelNextRow : OpenClaim := { program := "ytdakkmaahgcjfaadoor", sum := "850ee11ad427956ad056247aaa9c9d9d3e4049734b493b01eacc4a60650db5aa", func := "vizard/vizardlaw13.WheelNext", spec := "wheelNext", unfollowed := true, recurses := true, named := ["math/bits.deBruijn64tab"], apart := false, laid := [("math/bits.deBruijn64tab", laid_math_bits_deBruijn64tab)] }
def WheelNextSaid : Prop := wheelNextRow.holds Tryd.pinned (OpenSpec.ofChange wheelNextSpec)

/-- ITS FALSE NEIGHBOUR: 'it returns false'. Refute it at one input. -/
def wheelNextWrong : ChangeSpec := { name := "wheelNext", fn := fun _ => fun
  | [d1, d2] => { results := [.lit (.bool false)], args := [d1, d2] }
  | _ => none }
def WheelNextWrongFalsely : Prop := wheelNextRow.holds Tryd.pinned (OpenSpec.ofChange wheelNextWrong)

/- THE SECOND FORM. 'bulk': how many values and letters a reading holds, each counted each time it is reached (what is shared counts as often as it is met; a slice's spare places count too). A statement '..UptoSaid' is the law's where the arguments, and the package variables that the reading takes, are together of bulk at most 1048576: NARROWER than '..Said'. Prove '..Said' where nothing that the law and all that it calls make is longer than what came in: it says more and counts as full. Else prove '..UptoSaid'. A law counts once. -/
mutual
def uptoBulk {H : Type} : DataW H → Nat
  | .lit (.string bytes) => bytes.length + 1
  | .lit _ => 1
  | .nil => 1
  | .ptr d => uptoBulk d + 1
  | .slice elems spare => uptoBulkAll elems + uptoBulkAll spare + 1
  | .agg parts => uptoBulkAll parts + 1
  | .iface _ d => uptoBulk d + 1
  | .map entries => uptoBulkEntries entries + 1
  | .held _ => 1
def uptoBulkAll {H : Type} : List (DataW H) → Nat
  | [] => 0
  | d :: r => uptoBulk d + uptoBulkAll r
def uptoBulkEntries {H : Type} : List (Lit × DataW H) → Nat
  | [] => 0
  | x :: r => uptoBulkEntry x + uptoBulkEntries r
def uptoBulkEntry {H : Type} : Lit × DataW H → Nat
  | (.string bytes, d) => bytes.length + uptoBulk d + 1
  | (_, d) => uptoBulk d + 1
 end
def uptoSmall : (H : Type) → List (DataW H) → Bool := fun _ ds => decide (uptoBulkAll ds ≤ 1048576)
def OpenSpec.upto (s : _root_.Go.ChangeSpec) : _root_.Go.OpenSpec := { _root_.Go.OpenSpec.ofChange s with cond := some uptoSmall }

/-- 'vizardlaw13.WheelCalls', WHERE WHAT IT READS IS OF BULK AT MOST 1048576: true; the input reads as it did. -/
def wheelCallsUptoRow : OpenClaim := { program := "ytdakkmaahgcjfaadoor", sum := "850ee11ad427956ad056247aaa9c9d9d3e4049734b493b01eacc4a60650db5aa", func := "vizard/vizardlaw13.WheelCalls", spec := "wheelCalls", unfollowed := true, recurses := true, named := ["math/bits.deBruijn64tab"], apart := false, laid := [("math/bits.deBruijn64tab", laid_math_bits_deBruijn64tab)], narrowed := true }
def WheelCallsUptoSaid : Prop := wheelCallsUptoRow.holds Tryd.pinned (OpenSpec.upto wheelCallsSpec)

/-- 'vizardlaw13.WheelOnce', WHERE WHAT IT READS IS OF BULK AT MOST 1048576: true; the input reads as it did. -/
def wheelOnceUptoRow : OpenClaim := { program := "ytdakkmaahgcjfaadoor", sum := "850ee11ad427956ad056247aaa9c9d9d3e4049734b493b01eacc4a60650db5aa", func := "vizard/vizardlaw13.WheelOnce", spec := "wheelOnce", unfollowed := true, recurses := true, named := ["math/bits.deBruijn64tab"], apart := false, laid := [("math/bits.deBruijn64tab", laid_math_bits_deBruijn64tab)], narrowed := true }
def WheelOnceUptoSaid : Prop := wheelOnceUptoRow.holds Tryd.pinned (OpenSpec.upto wheelOnceSpec)

/-- 'vizardlaw13.WheelSteps', WHERE WHAT IT READS IS OF BULK AT MOST 1048576: true; the input reads as it did. -/
def wheelStepsUptoRow : OpenClaim := { program := "ytdakkmaahgcjfaadoor", sum := "850ee11ad427956ad056247aaa9c9d9d3e4049734b493b01eacc4a60650db5aa", func := "vizard/vizardlaw13.WheelSteps", spec := "wheelSteps", unfollowed := true, recurses := true, named := ["math/bits.deBruijn64tab"], apart := false, laid := [("math/bits.deBruijn64tab", laid_math_bits_deBruijn64tab)], narrowed := true }
def WheelStepsUptoSaid : Prop := wheelStepsUptoRow.holds Tryd.pinned (OpenSpec.upto wheelStepsSpec)

/-- 'vizardlaw13.WheelCancels', WHERE WHAT IT READS IS OF BULK AT MOST 1048576: true; the input reads as it did. -/
def wheelCancelsUptoRow : OpenClaim := { program := "ytdakkmaahgcjfaadoor", sum := "850ee11ad427956ad056247aaa9c9d9d3e4049734b493b01eacc4a60650db5aa", func := "vizard/vizardlaw13.WheelCancels", spec := "wheelCancels", unfollowed := true, recurses := true, named := ["math/bits.deBruijn64tab"], apart := false, laid := [("math/bits.deBruijn64tab", laid_math_bits_deBruijn64tab)], narrowed := true }
def WheelCancelsUptoSaid : Prop := wheelCancelsUptoRow.holds Tryd.pinned (OpenSpec.upto wheelCancelsSpec)

/-- 'vizardlaw13.WheelNext', WHERE WHAT IT READS IS OF BULK AT MOST 1048576: true; the input reads as it did. -/
def wheelNextUptoRow : OpenClaim := { program := "ytdakkmaahgcjfaadoor", sum := "850ee11ad427956ad056247aaa9c9d9d3e4049734b493b01eacc4a60650db5aa", func := "vizard/vizardlaw13.WheelNext", spec := "wheelNext", unfollowed := true, recurses := true, named := ["math/bits.deBruijn64tab"], apart := false, laid := [("math/bits.deBruijn64tab", laid_math_bits_deBruijn64tab)], narrowed := true }
def WheelNextUptoSaid : Prop := wheelNextUptoRow.holds Tryd.pinned (OpenSpec.upto wheelNextSpec)

end Rows
end Go.Proofs.YtdakkmaahgcjfaaDoor
