/-
  NARROWER THAN 'FOR EVERY INPUT', by the rows' own cells (each row's printed sentence says how): WhyChains: laid · ArpParses: laid · ArpWrites: laid · ArpTells: laid · ArpCuts: laid.
  DERIVED. THE GIVEN ROWS OF THIS SEAT. 5 by the template 'for every input the law returns true; each argument reads behind the call as it read before'; 0 by the template 'total and deterministic' (their statements: YtfhhmehlkjaibaaDoorTotals.lean).
  GIVEN WITH THE SEED: the statements are not yours to turn. If you find one false, say at which input.
  Laid BY PROGRAM, IN A SANDBOX (cutbox-rows.mjs): the forced cells as the released guide's own fill.sh prints them over the translation 4db5c218d987222e… (all of the seat's roots in one cut). By AI agents, Wed Nov 11 2026. No macro, syntax, notation, axiom, sorry.
-/
import Derived.Test.YtfhhmehlkjaibaaDoorChecked
import GoSem.Claim
import GoSem.ClaimJoined
import GoSem.ClaimMapViews
import Derived.JoinedTies
import Derived.KernelRfl
namespace Go.Proofs.YtfhhmehlkjaibaaDoor
/- THE CELL 'sum', in the pinned program and in every row, IS THE sha256 OF THE DUMP (.gsa) THAT YtfhhmehlkjaibaaDoorProg.lean LOADS. Nothing in Lean hashes anything: it is a label: what it is worth is what the hold of that sum in a sandbox is worth. -/
noncomputable def Tryd.pinned : Pinned := { name := "ytfhhmehlkjaibaadoor", sum := "4db5c218d987222ec5d721a2847ad1a9077635e13756591c163eb91160c5636e", checked := Tryd.checked }
namespace Rows
def none {H : Type} : Left H := { results := [], args := [] }

/- WHAT THE LISTED PACKAGE-LEVEL VARIABLES READ AS WHEN THE CALL BEGINS. Each datum BY PROGRAM (the guide's laid-datum.mjs) off the statement by which the dump's own 'gosem.cut.vars' lays the variable. In a bare row this is a premise. The card (YtfhhmehlkjaibaaDoorCards.lean) ties it to the program's text. -/
def laid_errors_errorType {H : Type} : DataW H := .iface "internal/reflectlite.rtype" (.agg [.ptr (.lit (.string [101, 114, 114, 111, 114]))])

/-- 'vizardlaw02.WhyChains': WHATEVER THE INPUT: true; the input reads as it did. -/
def whyChainsSpec : ChangeSpec := { name := "whyChains", fn := fun _ => fun
  | [d1, d2, d3, d4] => { results := [.lit (.bool true)], args := [d1, d2, d3, d4] }
  | _ => none }
def whyChainsRow : OpenClaim := { program := "ytfhhmehlkjaibaadoor", sum := "4db5c218d987222ec5d721a2847ad1a9077635e13756591c163eb91160c5636e", func := "vizard/vizardlaw02.WhyChains", spec := "whyChains", inPlace := ["internal/reflectlite.ValueOf", "(internal/reflectlite.Value).Type", "(internal/reflectlite.Value).IsNil", "internal/reflectlite.TypeOf", "(internal/reflectlite.Value).Elem", "(internal/reflectlite.Value).Set"], unfollowed := true, recurses := true, named := ["errors.errorType"], apart := false, laid := [("errors.errorType", laid_errors_errorType)] }
def WhyChainsSaid : Prop := whyChainsRow.holds Tryd.pinned (OpenSpec.ofChange whyChainsSpec)

/-- ITS FALSE NEIGHBOUR: 'it returns false'. Refute it at one input. -/
def whyChainsWrong : ChangeSpec := { name := "whyChains", fn := fun _ => fun
  | [d1, d2, d3, d4] => { results := [.lit (.bool false)], args := [d1, d2, d3, d4] }
  | _ => none }
def WhyChainsWrongFalsely : Prop := whyChainsRow.holds Tryd.pinned (OpenSpec.ofChange whyChainsWrong)

/-- 'vizardlaw06.ArpParses': WHATEVER THE INPUT: true; the input reads as it did. -/
def arpParsesSpec : ChangeSpec := { name := "arpParses", fn := fun _ => fun
  | [d] => { results := [.lit (.bool true)], args := [d] }
  | _ => none }
def arpParsesRow : OpenClaim := { program := "ytfhhmehlkjaibaadoor", sum := "4db5c218d987222ec5d721a2847ad1a9077635e13756591c163eb91160c5636e", func := "vizard/vizardlaw06.ArpParses", spec := "arpParses", inPlace := ["internal/reflectlite.TypeOf", "internal/reflectlite.ValueOf", "(internal/reflectlite.Value).Type", "(internal/reflectlite.Value).IsNil", "(internal/reflectlite.Value).Elem", "(internal/reflectlite.Value).Set"], unfollowed := true, recurses := true, named := ["errors.errorType"], apart := false, laid := [("errors.errorType", laid_errors_errorType)] }
def ArpParsesSaid : Prop := arpParsesRow.holds Tryd.pinned (OpenSpec.ofChange arpParsesSpec)

/-- ITS FALSE NEIGHBOUR: 'it returns false'. Refute it at one input. -/
def arpParsesWrong : ChangeSpec := { name := "arpParses", fn := fun _ => fun
  | [d] => { results := [.lit (.bool false)], args := [d] }
  | _ => none }
def ArpParsesWrongFalsely : Prop := arpParsesRow.holds Tryd.pinned (OpenSpec.ofChange arpParsesWrong)

/-- 'vizardlaw06.ArpWrites': WHATEVER THE INPUT: true; the input reads as it did. -/
def arpWritesSpec : ChangeSpec := { name := "arpWrites", fn := fun _ => fun
  | [d1, d2, d3] => { results := [.lit (.bool true)], args := [d1, d2, d3] }
  | _ => none }
def arpWritesRow : OpenClaim := { program := "ytfhhmehlkjaibaadoor", sum := "4db5c218d987222ec5d721a2847ad1a9077635e13756591c163eb91160c5636e", func := "vizard/vizardlaw06.ArpWrites", spec := "arpWrites", inPlace := ["internal/reflectlite.TypeOf", "internal/reflectlite.ValueOf", "(internal/reflectlite.Value).Type", "(internal/reflectlite.Value).IsNil", "(internal/reflectlite.Value).Elem", "(internal/reflectlite.Value).Set"], unfollowed := true, recurses := true, named := ["errors.errorType"], apart := false, laid := [("errors.errorType", laid_errors_errorType)] }
def ArpWritesSaid : Prop := arpWritesRow.holds Tryd.pinned (OpenSpec.ofChange arpWritesSpec)

/-- ITS FALSE NEIGHBOUR: 'it returns false'. Refute it at one input. -/
def arpWritesWrong : ChangeSpec := { name := "arpWrites", fn := fun _ => fun
  | [d1, d2, d3] => { results := [.lit (.bool false)], args := [d1, d2, d3] }
  | _ => none }
def ArpWritesWrongFalsely : Prop := arpWritesRow.holds Tryd.pinned (OpenSpec.ofChange arpWritesWrong)

/-- 'vizardlaw06.ArpTells': WHATEVER THE INPUT: true; the input reads as it did. -/
def arpTellsSpec : ChangeSpec := { name := "arpTells", fn := fun _ => fun
  | [d1, d2, d3] => { results := [.lit (.bool true)], args := [d1, d2, d3] }
  | _ => none }
def arpTellsRow : OpenClaim := { program := "ytfhhmehlkjaibaadoor", sum := "4db5c218d987222ec5d721a2847ad1a9077635e13756591c163eb91160c5636e", func := "vizard/vizardlaw06.ArpTells", spec := "arpTells", inPlace := ["internal/reflectlite.TypeOf", "internal/reflectlite.ValueOf", "(internal/reflectlite.Value).Type", "(internal/reflectlite.Value).IsNil", "(internal/reflectlite.Value).Elem", "(internal/reflectlite.Value).Set"], unfollowed := true, recurses := true, named := ["errors.errorType"], apart := false, laid := [("errors.errorType", laid_errors_errorType)] }
def ArpTellsSaid : Prop := arpTellsRow.holds Tryd.pinned (OpenSpec.ofChange arpTellsSpec)

/-- ITS FALSE NEIGHBOUR: 'it returns false'. Refute it at one input. -/
def arpTellsWrong : ChangeSpec := { name := "arpTells", fn := fun _ => fun
  | [d1, d2, d3] => { results := [.lit (.bool false)], args := [d1, d2, d3] }
  | _ => none }
def ArpTellsWrongFalsely : Prop := arpTellsRow.holds Tryd.pinned (OpenSpec.ofChange arpTellsWrong)

/-- 'vizardlaw06.ArpCuts': WHATEVER THE INPUT: true; the input reads as it did. -/
def arpCutsSpec : ChangeSpec := { name := "arpCuts", fn := fun _ => fun
  | [d1, d2, d3] => { results := [.lit (.bool true)], args := [d1, d2, d3] }
  | _ => none }
def arpCutsRow : OpenClaim := { program := "ytfhhmehlkjaibaadoor", sum := "4db5c218d987222ec5d721a2847ad1a9077635e13756591c163eb91160c5636e", func := "vizard/vizardlaw06.ArpCuts", spec := "arpCuts", inPlace := ["internal/reflectlite.TypeOf", "internal/reflectlite.ValueOf", "(internal/reflectlite.Value).Type", "(internal/reflectlite.Value).IsNil", "(internal/reflectlite.Value).Elem", "(internal/reflectlite.Value).Set"], unfollowed := true, recurses := true, named := ["errors.errorType"], apart := false, laid := [("errors.errorType", laid_errors_errorType)] }
def ArpCutsSaid : Prop := arpCutsRow.holds Tryd.pinned (OpenSpec.ofChange arpCutsSpec)

/-- ITS FALSE NEIGHBOUR: 'it returns false'. Refute it at one input. -/
def arpCutsWrong : ChangeSpec := { name := "arpCuts", fn := fun _ => fun
  | [d1, d2, d3] => { results := [.lit (.bool false)], args := [d1, d2, d3] }
  | _ => none }
def ArpCutsWrongFalsely : Prop := arpCutsRow.holds Tryd.pinned (OpenSpec.ofChange arpCutsWrong)

/- THE SECOND FORM. 'bulk': how many values and letters a reading holds, each counted each time it is reached (what is shared counts as often as it is met; a slice's spare places count too). A statement '..UptoSaid' is the law's where the arguments, and the package variables that the reading takes, are together of bulk at most 1048576: NARROWER than '..Said'. Prove '..Said' where nothing that the law and all that it calls make is longer than what came in: it says more and counts as full. Else prove '..UptoSaid'. A law counts once. -/
mutual
def uptoBulk {H : Type} : DataW H → Nat
  | .lit (.string bytes) => bytes.length + 1
  | .lit _ => 1
  | .nil => 1
  | .ptr d => uptoBulk d + 1
  | .slice elems spare => uptoBulkAll elems + uptoBulkAll spare + 1
  | .agg parts => uptoBulkAll parts + 1
  | .iface _ d => uptoBulk d + 1
  | .map entries => uptoBulkEntries entries + 1
  | .held _ => 1
def uptoBulkAll {H : Type} : List (DataW H) → Nat
  | [] => 0
  | d :: r => uptoBulk d + uptoBulkAll r
def uptoBulkEntries {H : Type} : List (Lit × DataW H) → Nat
  | [] => 0
  | x :: r => uptoBulkEntry x + uptoBulkEntries r
def uptoBulkEntry {H : Type} : Lit × DataW H → Nat
  | (.string bytes, d) => bytes.length + uptoBulk d + 1
  | (_, d) => uptoBulk d + 1
 end
def uptoSmall : (H : Type) → List (DataW H) → Bool := fun _ ds => decide (uptoBulkAll ds ≤ 1048576)
def OpenSpec.upto (s : _root_.Go.ChangeSpec) : _root_.Go.OpenSpec := { _root_.Go.OpenSpec.ofChange s with cond := some uptoSmall }

/-- 'vizardlaw02.WhyChains', WHERE WHAT IT READS IS OF BULK AT MOST 1048576: true; the input reads as it did. -/
def whyChainsUptoRow : OpenClaim := { program := "ytfhhmehlkjaibaadoor", sum := "4db5c218d987222ec5d721a2847ad1a9077635e13756591c163eb91160c5636e", func := "vizard/vizardlaw02.WhyChains", spec := "whyChains", inPlace := ["internal/reflectlite.ValueOf", "(internal/reflectlite.Value).Type", "(internal/reflectlite.Value).IsNil", "internal/reflectlite.TypeOf", "(internal/reflectlite.Value).Elem", "(internal/reflectlite.Value).Set"], unfollowed := true, recurses := true, named := ["errors.errorType"], apart := false, laid := [("errors.errorType", laid_errors_errorType)], narrowed := true }
def WhyChainsUptoSaid : Prop := whyChainsUptoRow.holds Tryd.pinned (OpenSpec.upto whyChainsSpec)

/-- 'vizardlaw06.ArpParses', WHERE WHAT IT READS IS OF BULK AT MOST 1048576: true; the input reads as it did. -/
def arpParsesUptoRow : OpenClaim := { program := "ytfhhmehlkjaibaadoor", sum := "4db5c218d987222ec5d721a2847ad1a9077635e13756591c163eb91160c5636e", func := "vizard/vizardlaw06.ArpParses", spec := "arpParses", inPlace := ["internal/reflectlite.TypeOf", "internal/reflectlite.ValueOf", "(internal/reflectlite.Value).Type", "(internal/reflectlite.Value).IsNil", "(internal/reflectlite.Value).Elem", "(internal/reflectlite.Value).Set"], unfollowed := true, recurses := true, named := ["errors.errorType"], apart := false, laid := [("errors.errorType", laid_errors_errorType)], narrowed := true }
def ArpParsesUptoSaid : Prop := arpParsesUptoRow.holds Tryd.pinned (OpenSpec.upto arpParsesSpec)

/-- 'vizardlaw06.ArpWrites', WHERE WHAT IT READS IS OF BULK AT MOST 1048576: true; the input reads as it did. -/
def arpWritesUptoRow : OpenClaim := { program := "ytfhhmehlkjaibaadoor", sum := "4db5c218d987222ec5d721a2847ad1a9077635e13756591c163eb91160c5636e", func := "vizard/vizardlaw06.ArpWrites", spec := "arpWrites", inPlace := ["internal/reflectlite.TypeOf", "internal/reflectlite.ValueOf", "(internal/reflectlite.Value).Type", "(internal/reflectlite.Value).IsNil", "(internal/reflectlite.Value).Elem", "(internal/reflectlite.Value).Set"], unfollowed := true, recurses := true, named := ["errors.errorType"], apart := false, laid := [("errors.errorType", laid_errors_errorType)], narrowed := true }
def ArpWritesUptoSaid : Prop := arpWritesUptoRow.holds Tryd.pinned (OpenSpec.upto arpWritesSpec)

/-- 'vizardlaw06.ArpTells', WHERE WHAT IT READS IS OF BULK AT MOST 1048576: true; the input reads as it did. -/
def arpTellsUptoRow : OpenClaim := { program := "ytfhhmehlkjaibaadoor", sum := "4db5c218d987222ec5d721a2847ad1a9077635e13756591c163eb91160c5636e", func := "vizard/vizardlaw06.ArpTells", spec := "arpTells", inPlace := ["internal/reflectlite.TypeOf", "internal/reflectlite.ValueOf", "(internal/reflectlite.Value).Type", "(internal/reflectlite.Value).IsNil", "(internal/reflectlite.Value).Elem", "(internal/reflectlite.Value).Set"], unfollowed := true, recurses := true, named := ["errors.errorType"], apart := false, laid := [("errors.errorType", laid_errors_errorType)], narrowed := true }
def ArpTellsUptoSaid : Prop := arpTellsUptoRow.holds Tryd.pinned (OpenSpec.upto arpTellsSpec)

/-- 'vizardlaw06.ArpCuts', WHERE WHAT IT READS IS OF BULK AT MOST 1048576: true; the input reads as it did. -/
def arpCutsUptoRow : OpenClaim := { program := "ytfhhmehlkjaibaadoor", sum := "4db5c218d987222ec5d721a2847ad1a9077635e13756591c163eb91160c5636e", func := "vizard/vizardlaw06.ArpCuts", spec := "arpCuts", inPlace := ["internal/reflectlite.TypeOf", "internal/reflectlite.ValueOf", "(internal/reflectlite.Value).Type", "(internal/reflectlite.Value).IsNil", "(internal/reflectlite.Value).Elem", "(internal/reflectlite.Value).Set"], unfollowed := true, recurses := true, named := ["errors.errorType"], apart := false, laid := [("errors.errorType", laid_errors_errorType)], narrowed := true }
def ArpCutsUptoSaid : Prop := arpCutsUptoRow.holds Tryd.pinned (OpenSpec.upto arpCutsSpec)

end Rows
end Go.Proofs.YtfhhmehlkjaibaaDoor
