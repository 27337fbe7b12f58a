/-
  NARROWER THAN 'FOR EVERY INPUT', by the rows' own cells (each row's printed sentence says how): PortsCalls: laid · PortsOnce: laid · PortsAll: laid · PortsRound: laid · WhyChains: laid · WhyWords: laid · WhyDeep: laid · WhyOnce: laid · EtherParses: laid · EtherWrites: laid · EtherFor: laid · EtherCuts: laid.
  DERIVED. THE GIVEN ROWS OF THIS SEAT. 12 by the template 'for every input the law returns true; each argument reads behind the call as it read before'; 0 by the template 'total and deterministic' (their statements: YtconpcnmccmbiaaDoorTotals.lean).
  GIVEN WITH THE SEED: the statements are not yours to turn. If you find one false, say at which input.
  Laid BY PROGRAM, IN A SANDBOX (cutbox-rows.mjs): the forced cells as the released guide's own fill.sh prints them over the translation a7b05607d1f079f1… (all of the seat's roots in one cut). By AI agents, Wed Nov 11 2026. No macro, syntax, notation, axiom, sorry.
-/
import Derived.Test.YtconpcnmccmbiaaDoorChecked
import GoSem.Claim
import GoSem.ClaimJoined
import GoSem.ClaimMapViews
import Derived.JoinedTies
import Derived.KernelRfl
namespace Go.Proofs.YtconpcnmccmbiaaDoor
/- THE CELL 'sum', in the pinned program and in every row, IS THE sha256 OF THE DUMP (.gsa) THAT YtconpcnmccmbiaaDoorProg.lean LOADS. Nothing in Lean hashes anything: it is a label: what it is worth is what the hold of that sum in a sandbox is worth. -/
noncomputable def Tryd.pinned : Pinned := { name := "ytconpcnmccmbiaadoor", sum := "a7b05607d1f079f11f9c1efe56d375602082f7082367af8ada92d3b452d6466a", checked := Tryd.checked }
namespace Rows
def none {H : Type} : Left H := { results := [], args := [] }

/- WHAT THE LISTED PACKAGE-LEVEL VARIABLES READ AS WHEN THE CALL BEGINS. Each datum BY PROGRAM (the guide's laid-datum.mjs) off the statement by which the dump's own 'gosem.cut.vars' lays the variable. In a bare row this is a premise. The card (YtconpcnmccmbiaaDoorCards.lean) ties it to the program's text. -/
def laid_math_bits_deBruijn64tab {H : Type} : DataW H := .agg [.lit (.int .u8 0), .lit (.int .u8 1), .lit (.int .u8 56), .lit (.int .u8 2), .lit (.int .u8 57), .lit (.int .u8 49), .lit (.int .u8 28), .lit (.int .u8 3), .lit (.int .u8 61), .lit (.int .u8 58), .lit (.int .u8 42), .lit (.int .u8 50), .lit (.int .u8 38), .lit (.int .u8 29), .lit (.int .u8 17), .lit (.int .u8 4), .lit (.int .u8 62), .lit (.int .u8 47), .lit (.int .u8 59), .lit (.int .u8 36), .lit (.int .u8 45), .lit (.int .u8 43), .lit (.int .u8 51), .lit (.int .u8 22), .lit (.int .u8 53), .lit (.int .u8 39), .lit (.int .u8 33), .lit (.int .u8 30), .lit (.int .u8 24), .lit (.int .u8 18), .lit (.int .u8 12), .lit (.int .u8 5), .lit (.int .u8 63), .lit (.int .u8 55), .lit (.int .u8 48), .lit (.int .u8 27), .lit (.int .u8 60), .lit (.int .u8 41), .lit (.int .u8 37), .lit (.int .u8 16), .lit (.int .u8 46), .lit (.int .u8 35), .lit (.int .u8 44), .lit (.int .u8 21), .lit (.int .u8 52), .lit (.int .u8 32), .lit (.int .u8 23), .lit (.int .u8 11), .lit (.int .u8 54), .lit (.int .u8 26), .lit (.int .u8 40), .lit (.int .u8 15), .lit (.int .u8 34), .lit (.int .u8 20), .lit (.int .u8 31), .lit (.int .u8 10), .lit (.int .u8 25), .lit (.int .u8 14), .lit (.int .u8 19), .lit (.int .u8 9), .lit (.int .u8 13), .lit (.int .u8 8), .lit (.int .u8 7), .lit (.int .u8 6)]
def laid_errors_errorType {H : Type} : DataW H := .iface "internal/reflectlite.rtype" (.agg [.ptr (.lit (.string [101, 114, 114, 111, 114]))])

/-- 'vizardlaw18.PortsCalls': WHATEVER THE INPUT: true; the input reads as it did. -/
def portsCallsSpec : ChangeSpec := { name := "portsCalls", fn := fun _ => fun
  | [d1, d2, d3, d4] => { results := [.lit (.bool true)], args := [d1, d2, d3, d4] }
  | _ => none }
def portsCallsRow : OpenClaim := { program := "ytconpcnmccmbiaadoor", sum := "a7b05607d1f079f11f9c1efe56d375602082f7082367af8ada92d3b452d6466a", func := "vizard/vizardlaw18.PortsCalls", spec := "portsCalls", named := ["math/bits.deBruijn64tab"], apart := false, laid := [("math/bits.deBruijn64tab", laid_math_bits_deBruijn64tab)] }
def PortsCallsSaid : Prop := portsCallsRow.holds Tryd.pinned (OpenSpec.ofChange portsCallsSpec)

/-- ITS FALSE NEIGHBOUR: 'it returns false'. Refute it at one input. -/
def portsCallsWrong : ChangeSpec := { name := "portsCalls", fn := fun _ => fun
  | [d1, d2, d3, d4] => { results := [.lit (.bool false)], args := [d1, d2, d3, d4] }
  | _ => none }
def PortsCallsWrongFalsely : Prop := portsCallsRow.holds Tryd.pinned (OpenSpec.ofChange portsCallsWrong)

/-- 'vizardlaw18.PortsOnce': WHATEVER THE INPUT: true; the input reads as it did. -/
def portsOnceSpec : ChangeSpec := { name := "portsOnce", fn := fun _ => fun
  | [d1, d2, d3] => { results := [.lit (.bool true)], args := [d1, d2, d3] }
  | _ => none }
def portsOnceRow : OpenClaim := { program := "ytconpcnmccmbiaadoor", sum := "a7b05607d1f079f11f9c1efe56d375602082f7082367af8ada92d3b452d6466a", func := "vizard/vizardlaw18.PortsOnce", spec := "portsOnce", named := ["math/bits.deBruijn64tab"], apart := false, laid := [("math/bits.deBruijn64tab", laid_math_bits_deBruijn64tab)] }
def PortsOnceSaid : Prop := portsOnceRow.holds Tryd.pinned (OpenSpec.ofChange portsOnceSpec)

/-- ITS FALSE NEIGHBOUR: 'it returns false'. Refute it at one input. -/
def portsOnceWrong : ChangeSpec := { name := "portsOnce", fn := fun _ => fun
  | [d1, d2, d3] => { results := [.lit (.bool false)], args := [d1, d2, d3] }
  | _ => none }
def PortsOnceWrongFalsely : Prop := portsOnceRow.holds Tryd.pinned (OpenSpec.ofChange portsOnceWrong)

/-- 'vizardlaw18.PortsAll': WHATEVER THE INPUT: true; the input reads as it did. -/
def portsAllSpec : ChangeSpec := { name := "portsAll", fn := fun _ => fun
  | [d1, d2, d3] => { results := [.lit (.bool true)], args := [d1, d2, d3] }
  | _ => none }
def portsAllRow : OpenClaim := { program := "ytconpcnmccmbiaadoor", sum := "a7b05607d1f079f11f9c1efe56d375602082f7082367af8ada92d3b452d6466a", func := "vizard/vizardlaw18.PortsAll", spec := "portsAll", named := ["math/bits.deBruijn64tab"], apart := false, laid := [("math/bits.deBruijn64tab", laid_math_bits_deBruijn64tab)] }
def PortsAllSaid : Prop := portsAllRow.holds Tryd.pinned (OpenSpec.ofChange portsAllSpec)

/-- ITS FALSE NEIGHBOUR: 'it returns false'. Refute it at one input. -/
def portsAllWrong : ChangeSpec := { name := "portsAll", fn := fun _ => fun
  | [d1, d2, d3] => { results := [.lit (.bool false)], args := [d1, d2, d3] }
  | _ => none }
def PortsAllWrongFalsely : Prop := portsAllRow.holds Tryd.pinned (OpenSpec.ofChange portsAllWrong)

/-- 'vizardlaw18.PortsRound': WHATEVER THE INPUT: true; the input reads as it did. -/
def portsRoundSpec : ChangeSpec := { name := "portsRound", fn := fun _ => fun
  | [d1, d2, d3] => { results := [.lit (.bool true)], args := [d1, d2, d3] }
  | _ => none }
def portsRoundRow : OpenClaim := { program := "ytconpcnmccmbiaadoor", sum := "a7b05607d1f079f11f9c1efe56d375602082f7082367af8ada92d3b452d6466a", func := "vizard/vizardlaw18.PortsRound", spec := "portsRound", named := ["math/bits.deBruijn64tab"], apart := false, laid := [("math/bits.deBruijn64tab", laid_math_bits_deBruijn64tab)] }
def PortsRoundSaid : Prop := portsRoundRow.holds Tryd.pinned (OpenSpec.ofChange portsRoundSpec)

/-- ITS FALSE NEIGHBOUR: 'it returns false'. Refute it at one input. -/
def portsRoundWrong : ChangeSpec := { name := "portsRound", fn := fun _ => fun
  | [d1, d2, d3] => { results := [.lit (.bool false)], args := [d1, d2, d3] }
  | _ => none }
def PortsRoundWrongFalsely : Prop := portsRoundRow.holds Tryd.pinned (OpenSpec.ofChange portsRoundWrong)

/-- 'vizardlaw02.WhyChains': WHATEVER THE INPUT: true; the input reads as it did. -/
def whyChainsSpec : ChangeSpec := { name := "whyChains", fn := fun _ => fun
  | [d1, d2, d3, d4] => { results := [.lit (.bool true)], args := [d1, d2, d3, d4] }
  | _ => none }
def whyChainsRow : OpenClaim := { program := "ytconpcnmccmbiaadoor", sum := "a7b05607d1f079f11f9c1efe56d375602082f7082367af8ada92d3b452d6466a", func := "vizard/vizardlaw02.WhyChains", spec := "whyChains", inPlace := ["internal/reflectlite.ValueOf", "(internal/reflectlite.Value).Type", "(internal/reflectlite.Value).IsNil", "internal/reflectlite.TypeOf", "(internal/reflectlite.Value).Elem", "(internal/reflectlite.Value).Set"], unfollowed := true, recurses := true, named := ["errors.errorType"], apart := false, laid := [("errors.errorType", laid_errors_errorType)] }
def WhyChainsSaid : Prop := whyChainsRow.holds Tryd.pinned (OpenSpec.ofChange whyChainsSpec)

/-- ITS FALSE NEIGHBOUR: 'it returns false'. Refute it at one input. -/
def whyChainsWrong : ChangeSpec := { name := "whyChains", fn := fun _ => fun
  | [d1, d2, d3, d4] => { results := [.lit (.bool false)], args := [d1, d2, d3, d4] }
  | _ => none }
def WhyChainsWrongFalsely : Prop := whyChainsRow.holds Tryd.pinned (OpenSpec.ofChange whyChainsWrong)

/-- 'vizardlaw02.WhyWords': WHATEVER THE INPUT: true; the input reads as it did. -/
def whyWordsSpec : ChangeSpec := { name := "whyWords", fn := fun _ => fun
  | [d1, d2, d3] => { results := [.lit (.bool true)], args := [d1, d2, d3] }
  | _ => none }
def whyWordsRow : OpenClaim := { program := "ytconpcnmccmbiaadoor", sum := "a7b05607d1f079f11f9c1efe56d375602082f7082367af8ada92d3b452d6466a", func := "vizard/vizardlaw02.WhyWords", spec := "whyWords", inPlace := ["internal/reflectlite.ValueOf", "(internal/reflectlite.Value).Type", "(internal/reflectlite.Value).IsNil", "internal/reflectlite.TypeOf", "(internal/reflectlite.Value).Elem", "(internal/reflectlite.Value).Set"], unfollowed := true, recurses := true, named := ["errors.errorType"], apart := false, laid := [("errors.errorType", laid_errors_errorType)] }
def WhyWordsSaid : Prop := whyWordsRow.holds Tryd.pinned (OpenSpec.ofChange whyWordsSpec)

/-- ITS FALSE NEIGHBOUR: 'it returns false'. Refute it at one input. -/
def whyWordsWrong : ChangeSpec := { name := "whyWords", fn := fun _ => fun
  | [d1, d2, d3] => { results := [.lit (.bool false)], args := [d1, d2, d3] }
  | _ => none }
def WhyWordsWrongFalsely : Prop := whyWordsRow.holds Tryd.pinned (OpenSpec.ofChange whyWordsWrong)

/-- 'vizardlaw02.WhyDeep': WHATEVER THE INPUT: true; the input reads as it did. -/
def whyDeepSpec : ChangeSpec := { name := "whyDeep", fn := fun _ => fun
  | [d1, d2, d3, d4] => { results := [.lit (.bool true)], args := [d1, d2, d3, d4] }
  | _ => none }
def whyDeepRow : OpenClaim := { program := "ytconpcnmccmbiaadoor", sum := "a7b05607d1f079f11f9c1efe56d375602082f7082367af8ada92d3b452d6466a", func := "vizard/vizardlaw02.WhyDeep", spec := "whyDeep", inPlace := ["internal/reflectlite.ValueOf", "(internal/reflectlite.Value).Type", "(internal/reflectlite.Value).IsNil", "internal/reflectlite.TypeOf", "(internal/reflectlite.Value).Elem", "(internal/reflectlite.Value).Set"], unfollowed := true, recurses := true, named := ["errors.errorType"], apart := false, laid := [("errors.errorType", laid_errors_errorType)] }
def WhyDeepSaid : Prop := whyDeepRow.holds Tryd.pinned (OpenSpec.ofChange whyDeepSpec)

/-- ITS FALSE NEIGHBOUR: 'it returns false'. Refute it at one input. -/
def whyDeepWrong : ChangeSpec := { name := "whyDeep", fn := fun _ => fun
  | [d1, d2, d3, d4] => { results := [.lit (.bool false)], args := [d1, d2, d3, d4] }
  | _ => none }
def WhyDeepWrongFalsely : Prop := whyDeepRow.holds Tryd.pinned (OpenSpec.ofChange whyDeepWrong)

/-- 'vizardlaw02.WhyOnce': WHATEVER THE INPUT: true; the input reads as it did. -/
def whyOnceSpec : ChangeSpec := { name := "whyOnce", fn := fun _ => fun
  | [d1, d2] => { results := [.lit (.bool true)], args := [d1, d2] }
  | _ => none }
def whyOnceRow : OpenClaim := { program := "ytconpcnmccmbiaadoor", sum := "a7b05607d1f079f11f9c1efe56d375602082f7082367af8ada92d3b452d6466a", func := "vizard/vizardlaw02.WhyOnce", spec := "whyOnce", inPlace := ["internal/reflectlite.ValueOf", "(internal/reflectlite.Value).Type", "(internal/reflectlite.Value).IsNil", "internal/reflectlite.TypeOf", "(internal/reflectlite.Value).Elem", "(internal/reflectlite.Value).Set"], unfollowed := true, recurses := true, named := ["errors.errorType"], apart := false, laid := [("errors.errorType", laid_errors_errorType)] }
def WhyOnceSaid : Prop := whyOnceRow.holds Tryd.pinned (OpenSpec.ofChange whyOnceSpec)

/-- ITS FALSE NEIGHBOUR: 'it returns false'. Refute it at one input. -/
def whyOnceWrong : ChangeSpec := { name := "whyOnce", fn := fun _ => fun
  | [d1, d2] => { results := [.lit (.bool false)], args := [d1, d2] }
  | _ => none }
def WhyOnceWrongFalsely : Prop := whyOnceRow.holds Tryd.pinned (OpenSpec.ofChange whyOnceWrong)

/-- 'vizardlaw05.EtherParses': WHATEVER THE INPUT: true; the input reads as it did. -/
def etherParsesSpec : ChangeSpec := { name := "etherParses", fn := fun _ => fun
  | [d1, d2] => { results := [.lit (.bool true)], args := [d1, d2] }
  | _ => none }
def etherParsesRow : OpenClaim := { program := "ytconpcnmccmbiaadoor", sum := "a7b05607d1f079f11f9c1efe56d375602082f7082367af8ada92d3b452d6466a", func := "vizard/vizardlaw05.EtherParses", spec := "etherParses", inPlace := ["internal/reflectlite.ValueOf", "(internal/reflectlite.Value).Type", "(internal/reflectlite.Value).IsNil", "internal/reflectlite.TypeOf", "(internal/reflectlite.Value).Elem", "(internal/reflectlite.Value).Set"], unfollowed := true, recurses := true, named := ["errors.errorType"], apart := false, laid := [("errors.errorType", laid_errors_errorType)] }
def EtherParsesSaid : Prop := etherParsesRow.holds Tryd.pinned (OpenSpec.ofChange etherParsesSpec)

/-- ITS FALSE NEIGHBOUR: 'it returns false'. Refute it at one input. -/
def etherParsesWrong : ChangeSpec := { name := "etherParses", fn := fun _ => fun
  | [d1, d2] => { results := [.lit (.bool false)], args := [d1, d2] }
  | _ => none }
def EtherParsesWrongFalsely : Prop := etherParsesRow.holds Tryd.pinned (OpenSpec.ofChange etherParsesWrong)

/-- 'vizardlaw05.EtherWrites': WHATEVER THE INPUT: true; the input reads as it did. -/
def etherWritesSpec : ChangeSpec := { name := "etherWrites", fn := fun _ => fun
  | [d1, d2] => { results := [.lit (.bool true)], args := [d1, d2] }
  | _ => none }
def etherWritesRow : OpenClaim := { program := "ytconpcnmccmbiaadoor", sum := "a7b05607d1f079f11f9c1efe56d375602082f7082367af8ada92d3b452d6466a", func := "vizard/vizardlaw05.EtherWrites", spec := "etherWrites", inPlace := ["internal/reflectlite.ValueOf", "(internal/reflectlite.Value).Type", "(internal/reflectlite.Value).IsNil", "internal/reflectlite.TypeOf", "(internal/reflectlite.Value).Elem", "(internal/reflectlite.Value).Set"], unfollowed := true, recurses := true, named := ["errors.errorType"], apart := false, laid := [("errors.errorType", laid_errors_errorType)] }
def EtherWritesSaid : Prop := etherWritesRow.holds Tryd.pinned (OpenSpec.ofChange etherWritesSpec)

/-- ITS FALSE NEIGHBOUR: 'it returns false'. Refute it at one input. -/
def etherWritesWrong : ChangeSpec := { name := "etherWrites", fn := fun _ => fun
  | [d1, d2] => { results := [.lit (.bool false)], args := [d1, d2] }
  | _ => none }
def EtherWritesWrongFalsely : Prop := etherWritesRow.holds Tryd.pinned (OpenSpec.ofChange etherWritesWrong)

/-- 'vizardlaw05.EtherFor': WHATEVER THE INPUT: true; the input reads as it did. -/
def etherForSpec : ChangeSpec := { name := "etherFor", fn := fun _ => fun
  | [d1, d2, d3, d4] => { results := [.lit (.bool true)], args := [d1, d2, d3, d4] }
  | _ => none }
def etherForRow : OpenClaim := { program := "ytconpcnmccmbiaadoor", sum := "a7b05607d1f079f11f9c1efe56d375602082f7082367af8ada92d3b452d6466a", func := "vizard/vizardlaw05.EtherFor", spec := "etherFor", inPlace := ["internal/reflectlite.ValueOf", "(internal/reflectlite.Value).Type", "(internal/reflectlite.Value).IsNil", "internal/reflectlite.TypeOf", "(internal/reflectlite.Value).Elem", "(internal/reflectlite.Value).Set"], unfollowed := true, recurses := true, named := ["errors.errorType"], apart := false, laid := [("errors.errorType", laid_errors_errorType)] }
def EtherForSaid : Prop := etherForRow.holds Tryd.pinned (OpenSpec.ofChange etherForSpec)

/-- ITS FALSE NEIGHBOUR: 'it returns false'. Refute it at one input. -/
def etherForWrong : ChangeSpec := { name := "etherFor", fn := fun _ => fun
  | [d1, d2, d3, d4] => { results := [.lit (.bool false)], args := [d1, d2, d3, d4] }
  | _ => none }
def EtherForWrongFalsely : Prop := etherForRow.holds Tryd.pinned (OpenSpec.ofChange etherForWrong)

/-- 'vizardlaw05.EtherCuts': WHATEVER THE INPUT: true; the input reads as it did. -/
def etherCutsSpec : ChangeSpec := { name := "etherCuts", fn := fun _ => fun
  | [d1, d2] => { results := [.lit (.bool true)], args := [d1, d2] }
  | _ => none }
def etherCutsRow : OpenClaim := { program := "ytconpcnmccmbiaadoor", sum := "a7b05607d1f079f11f9c1efe56d375602082f7082367af8ada92d3b452d6466a", func := "vizard/vizardlaw05.EtherCuts", spec := "etherCuts", inPlace := ["internal/reflectlite.ValueOf", "(internal/reflectlite.Value).Type", "(internal/reflectlite.Value).IsNil", "internal/reflectlite.TypeOf", "(internal/reflectlite.Value).Elem", "(internal/reflectlite.Value).Set"], unfollowed := true, recurses := true, named := ["errors.errorType"], apart := false, laid := [("errors.errorType", laid_errors_errorType)] }
def EtherCutsSaid : Prop := etherCutsRow.holds Tryd.pinned (OpenSpec.ofChange etherCutsSpec)

/-- ITS FALSE NEIGHBOUR: 'it returns false'. Refute it at one input. -/
def etherCutsWrong : ChangeSpec := { name := "etherCuts", fn := fun _ => fun
  | [d1, d2] => { results := [.lit (.bool false)], args := [d1, d2] }
  | _ => none }
def EtherCutsWrongFalsely : Prop := etherCutsRow.holds Tryd.pinned (OpenSpec.ofChange etherCutsWrong)

/- THE SECOND FORM. 'bulk': how many values and letters a reading holds, each counted each time it is reached (what is shared counts as often as it is met; a slice's spare places count too). A statement '..UptoSaid' is the law's where the arguments, and the package variables that the reading takes, are together of bulk at most 1048576: NARROWER than '..Said'. Prove '..Said' where nothing that the law and all that it calls make is longer than what came in: it says more and counts as full. Else prove '..UptoSaid'. A law counts once. -/
mutual
def uptoBulk {H : Type} : DataW H → Nat
  | .lit (.string bytes) => bytes.length + 1
  | .lit _ => 1
  | .nil => 1
  | .ptr d => uptoBulk d + 1
  | .slice elems spare => uptoBulkAll elems + uptoBulkAll spare + 1
  | .agg parts => uptoBulkAll parts + 1
  | .iface _ d => uptoBulk d + 1
  | .map entries => uptoBulkEntries entries + 1
  | .held _ => 1
def uptoBulkAll {H : Type} : List (DataW H) → Nat
  | [] => 0
  | d :: r => uptoBulk d + uptoBulkAll r
def uptoBulkEntries {H : Type} : List (Lit × DataW H) → Nat
  | [] => 0
  | x :: r => uptoBulkEntry x + uptoBulkEntries r
def uptoBulkEntry {H : Type} : Lit × DataW H → Nat
  | (.string bytes, d) => bytes.length + uptoBulk d + 1
  | (_, d) => uptoBulk d + 1
 end
def uptoSmall : (H : Type) → List (DataW H) → Bool := fun _ ds => decide (uptoBulkAll ds ≤ 1048576)
def OpenSpec.upto (s : _root_.Go.ChangeSpec) : _root_.Go.OpenSpec := { _root_.Go.OpenSpec.ofChange s with cond := some uptoSmall }

/-- 'vizardlaw18.PortsCalls', WHERE WHAT IT READS IS OF BULK AT MOST 1048576: true; the input reads as it did. -/
def portsCallsUptoRow : OpenClaim := { program := "ytconpcnmccmbiaadoor", sum := "a7b05607d1f079f11f9c1efe56d375602082f7082367af8ada92d3b452d6466a", func := "vizard/vizardlaw18.PortsCalls", spec := "portsCalls", named := ["math/bits.deBruijn64tab"], apart := false, laid := [("math/bits.deBruijn64tab", laid_math_bits_deBruijn64tab)], narrowed := true }
def PortsCallsUptoSaid : Prop := portsCallsUptoRow.holds Tryd.pinned (OpenSpec.upto portsCallsSpec)

/-- 'vizardlaw18.PortsOnce', WHERE WHAT IT READS IS OF BULK AT MOST 1048576: true; the input reads as it did. -/
def portsOnceUptoRow : OpenClaim := { program := "ytconpcnmccmbiaadoor", sum := "a7b05607d1f079f11f9c1efe56d375602082f7082367af8ada92d3b452d6466a", func := "vizard/vizardlaw18.PortsOnce", spec := "portsOnce", named := ["math/bits.deBruijn64tab"], apart := false, laid := [("math/bits.deBruijn64tab", laid_math_bits_deBruijn64tab)], narrowed := true }
def PortsOnceUptoSaid : Prop := portsOnceUptoRow.holds Tryd.pinned (OpenSpec.upto portsOnceSpec)

/-- 'vizardlaw18.PortsAll', WHERE WHAT IT READS IS OF BULK AT MOST 1048576: true; the input reads as it did. -/
def portsAllUptoRow : OpenClaim := { program := "ytconpcnmccmbiaadoor", sum := "a7b05607d1f079f11f9c1efe56d375602082f7082367af8ada92d3b452d6466a", func := "vizard/vizardlaw18.PortsAll", spec := "portsAll", named := ["math/bits.deBruijn64tab"], apart := false, laid := [("math/bits.deBruijn64tab", laid_math_bits_deBruijn64tab)], narrowed := true }
def PortsAllUptoSaid : Prop := portsAllUptoRow.holds Tryd.pinned (OpenSpec.upto portsAllSpec)

/-- 'vizardlaw18.PortsRound', WHERE WHAT IT READS IS OF BULK AT MOST 1048576: true; the input reads as it did. -/
def portsRoundUptoRow : OpenClaim := { program := "ytconpcnmccmbiaadoor", sum := "a7b05607d1f079f11f9c1efe56d375602082f7082367af8ada92d3b452d6466a", func := "vizard/vizardlaw18.PortsRound", spec := "portsRound", named := ["math/bits.deBruijn64tab"], apart := false, laid := [("math/bits.deBruijn64tab", laid_math_bits_deBruijn64tab)], narrowed := true }
def PortsRoundUptoSaid : Prop := portsRoundUptoRow.holds Tryd.pinned (OpenSpec.upto portsRoundSpec)

/-- 'vizardlaw02.WhyChains', WHERE WHAT IT READS IS OF BULK AT MOST 1048576: true; the input reads as it did. -/
def whyChainsUptoRow : OpenClaim := { program := "ytconpcnmccmbiaadoor", sum := "a7b05607d1f079f11f9c1efe56d375602082f7082367af8ada92d3b452d6466a", func := "vizard/vizardlaw02.WhyChains", spec := "whyChains", inPlace := ["internal/reflectlite.ValueOf", "(internal/reflectlite.Value).Type", "(internal/reflectlite.Value).IsNil", "internal/reflectlite.TypeOf", "(internal/reflectlite.Value).Elem", "(internal/reflectlite.Value).Set"], unfollowed := true, recurses := true, named := ["errors.errorType"], apart := false, laid := [("errors.errorType", laid_errors_errorType)], narrowed := true }
def WhyChainsUptoSaid : Prop := whyChainsUptoRow.holds Tryd.pinned (OpenSpec.upto whyChainsSpec)

/-- 'vizardlaw02.WhyWords', WHERE WHAT IT READS IS OF BULK AT MOST 1048576: true; the input reads as it did. -/
def whyWordsUptoRow : OpenClaim := { program := "ytconpcnmccmbiaadoor", sum := "a7b05607d1f079f11f9c1efe56d375602082f7082367af8ada92d3b452d6466a", func := "vizard/vizardlaw02.WhyWords", spec := "whyWords", inPlace := ["internal/reflectlite.ValueOf", "(internal/reflectlite.Value).Type", "(internal/reflectlite.Value).IsNil", "internal/reflectlite.TypeOf", "(internal/reflectlite.Value).Elem", "(internal/reflectlite.Value).Set"], unfollowed := true, recurses := true, named := ["errors.errorType"], apart := false, laid := [("errors.errorType", laid_errors_errorType)], narrowed := true }
def WhyWordsUptoSaid : Prop := whyWordsUptoRow.holds Tryd.pinned (OpenSpec.upto whyWordsSpec)

/-- 'vizardlaw02.WhyDeep', WHERE WHAT IT READS IS OF BULK AT MOST 1048576: true; the input reads as it did. -/
def whyDeepUptoRow : OpenClaim := { program := "ytconpcnmccmbiaadoor", sum := "a7b05607d1f079f11f9c1efe56d375602082f7082367af8ada92d3b452d6466a", func := "vizard/vizardlaw02.WhyDeep", spec := "whyDeep", inPlace := ["internal/reflectlite.ValueOf", "(internal/reflectlite.Value).Type", "(internal/reflectlite.Value).IsNil", "internal/reflectlite.TypeOf", "(internal/reflectlite.Value).Elem", "(internal/reflectlite.Value).Set"], unfollowed := true, recurses := true, named := ["errors.errorType"], apart := false, laid := [("errors.errorType", laid_errors_errorType)], narrowed := true }
def WhyDeepUptoSaid : Prop := whyDeepUptoRow.holds Tryd.pinned (OpenSpec.upto whyDeepSpec)

/-- 'vizardlaw02.WhyOnce', WHERE WHAT IT READS IS OF BULK AT MOST 1048576: true; the input reads as it did. -/
def whyOnceUptoRow : OpenClaim := { program := "ytconpcnmccmbiaadoor", sum := "a7b05607d1f079f11f9c1efe56d375602082f7082367af8ada92d3b452d6466a", func := "vizard/vizardlaw02.WhyOnce", spec := "whyOnce", inPlace := ["internal/reflectlite.ValueOf", "(internal/reflectlite.Value).Type", "(internal/reflectlite.Value).IsNil", "internal/reflectlite.TypeOf", "(internal/reflectlite.Value).Elem", "(internal/reflectlite.Value).Set"], unfollowed := true, recurses := true, named := ["errors.errorType"], apart := false, laid := [("errors.errorType", laid_errors_errorType)], narrowed := true }
def WhyOnceUptoSaid : Prop := whyOnceUptoRow.holds Tryd.pinned (OpenSpec.upto whyOnceSpec)

/-- 'vizardlaw05.EtherParses', WHERE WHAT IT READS IS OF BULK AT MOST 1048576: true; the input reads as it did. -/
def etherParsesUptoRow : OpenClaim := { program := "ytconpcnmccmbiaadoor", sum := "a7b05607d1f079f11f9c1efe56d375602082f7082367af8ada92d3b452d6466a", func := "vizard/vizardlaw05.EtherParses", spec := "etherParses", inPlace := ["internal/reflectlite.ValueOf", "(internal/reflectlite.Value).Type", "(internal/reflectlite.Value).IsNil", "internal/reflectlite.TypeOf", "(internal/reflectlite.Value).Elem", "(internal/reflectlite.Value).Set"], unfollowed := true, recurses := true, named := ["errors.errorType"], apart := false, laid := [("errors.errorType", laid_errors_errorType)], narrowed := true }
def EtherParsesUptoSaid : Prop := etherParsesUptoRow.holds Tryd.pinned (OpenSpec.upto etherParsesSpec)

/-- 'vizardlaw05.EtherWrites', WHERE WHAT IT READS IS OF BULK AT MOST 1048576: true; the input reads as it did. -/
def etherWritesUptoRow : OpenClaim := { program := "ytconpcnmccmbiaadoor", sum := "a7b05607d1f079f11f9c1efe56d375602082f7082367af8ada92d3b452d6466a", func := "vizard/vizardlaw05.EtherWrites", spec := "etherWrites", inPlace := ["internal/reflectlite.ValueOf", "(internal/reflectlite.Value).Type", "(internal/reflectlite.Value).IsNil", "internal/reflectlite.TypeOf", "(internal/reflectlite.Value).Elem", "(internal/reflectlite.Value).Set"], unfollowed := true, recurses := true, named := ["errors.errorType"], apart := false, laid := [("errors.errorType", laid_errors_errorType)], narrowed := true }
def EtherWritesUptoSaid : Prop := etherWritesUptoRow.holds Tryd.pinned (OpenSpec.upto etherWritesSpec)

/-- 'vizardlaw05.EtherFor', WHERE WHAT IT READS IS OF BULK AT MOST 1048576: true; the input reads as it did. -/
def etherForUptoRow : OpenClaim := { program := "ytconpcnmccmbiaadoor", sum := "a7b05607d1f079f11f9c1efe56d375602082f7082367af8ada92d3b452d6466a", func := "vizard/vizardlaw05.EtherFor", spec := "etherFor", inPlace := ["internal/reflectlite.ValueOf", "(internal/reflectlite.Value).Type", "(internal/reflectlite.Value).IsNil", "internal/reflectlite.TypeOf", "(internal/reflectlite.Value).Elem", "(internal/reflectlite.Value).Set"], unfollowed := true, recurses := true, named := ["errors.errorType"], apart := false, laid := [("errors.errorType", laid_errors_errorType)], narrowed := true }
def EtherForUptoSaid : Prop := etherForUptoRow.holds Tryd.pinned (OpenSpec.upto etherForSpec)

/-- 'vizardlaw05.EtherCuts', WHERE WHAT IT READS IS OF BULK AT MOST 1048576: true; the input reads as it did. -/
def etherCutsUptoRow : OpenClaim := { program := "ytconpcnmccmbiaadoor", sum := "a7b05607d1f079f11f9c1efe56d375602082f7082367af8ada92d3b452d6466a", func := "vizard/vizardlaw05.EtherCuts", spec := "etherCuts", inPlace := ["internal/reflectlite.ValueOf", "(internal/reflectlite.Value).Type", "(internal/reflectlite.Value).IsNil", "internal/reflectlite.TypeOf", "(internal/reflectlite.Value).Elem", "(internal/reflectlite.Value).Set"], unfollowed := true, recurses := true, named := ["errors.errorType"], apart := false, laid := [("errors.errorType", laid_errors_errorType)], narrowed := true }
def EtherCutsUptoSaid : Prop := etherCutsUptoRow.holds Tryd.pinned (OpenSpec.upto etherCutsSpec)

end Rows
end Go.Proofs.YtconpcnmccmbiaaDoor
