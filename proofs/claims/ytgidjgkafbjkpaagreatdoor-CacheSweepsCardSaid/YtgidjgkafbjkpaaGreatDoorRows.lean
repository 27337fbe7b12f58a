/-
  NARROWER THAN 'FOR EVERY INPUT', by the rows' own cells (each row's printed sentence says how): CacheTokens: laid · CacheFinds: laid · CacheFirst: laid · CacheSweeps: laid.
  DERIVED. THE GIVEN ROWS OF THIS SEAT. 4 by the template 'for every input the law returns true; each argument reads behind the call as it read before'; 0 by the template 'total and deterministic' (their statements: YtgidjgkafbjkpaaGreatDoorTotals.lean).
  GIVEN WITH THE SEED: the statements are not yours to turn. If you find one false, say at which input.
  Laid BY PROGRAM, IN A SANDBOX (cutbox-rows.mjs): the forced cells as the released guide's own fill.sh prints them over the translation cab463d1d0b68a05… (all of the seat's roots in one cut). By AI agents, Wed Nov 11 2026. No macro, syntax, notation, axiom, sorry.
-/
import Derived.Test.YtgidjgkafbjkpaaGreatDoorChecked
import GoSem.Claim
import GoSem.ClaimJoined
import GoSem.ClaimMapViews
import Derived.JoinedTies
import Derived.KernelRfl
namespace Go.Proofs.YtgidjgkafbjkpaaGreatDoor
/- THE CELL 'sum', in the pinned program and in every row, IS THE sha256 OF THE DUMP (.gsa) THAT YtgidjgkafbjkpaaGreatDoorProg.lean LOADS. Nothing in Lean hashes anything: it is a label: what it is worth is what the hold of that sum in a sandbox is worth. -/
noncomputable def Tryz.pinned : Pinned := { name := "ytgidjgkafbjkpaagreatdoor", sum := "cab463d1d0b68a05af525e645cdbd2ce9a8613d2217a6bf68319cfecfc7f85bd", checked := Tryz.checked }
namespace Rows
def none {H : Type} : Left H := { results := [], args := [] }

/- WHAT THE LISTED PACKAGE-LEVEL VARIABLES READ AS WHEN THE CALL BEGINS. Each datum BY PROGRAM (the guide's laid-datum.mjs) off the statement by which the dump's own 'gosem.cut.vars' lays the variable. In a bare row this is a premise. The card (YtgidjgkafbjkpaaGreatDoorCards.lean) ties it to the program's text. -/
def laid_math_bits_deBruijn64tab {H : Type} : DataW H := .agg [.lit (.int .u8 0), .lit (.int .u8 1), .lit (.int .u8 56), .lit (.int .u8 2), .lit (.int .u8 57), .lit (.int .u8 49), .lit (.int .u8 28), .lit (.int .u8 3), .lit (.int .u8 61), .lit (.int .u8 58), .lit (.int .u8 42), .lit (.int .u8 50), .lit (.int .u8 38), .lit (.int .u8 29), .lit (.int .u8 17), .lit (.int .u8 4), .lit (.int .u8 62), .lit (.int .u8 47), .lit (.int .u8 59), .lit (.int .u8 36), .lit (.int .u8 45), .lit (.int .u8 43), .lit (.int .u8 51), .lit (.int .u8 22), .lit (.int .u8 53), .lit (.int .u8 39), .lit (.int .u8 33), .lit (.int .u8 30), .lit (.int .u8 24), .lit (.int .u8 18), .lit (.int .u8 12), .lit (.int .u8 5), .lit (.int .u8 63), .lit (.int .u8 55), .lit (.int .u8 48), .lit (.int .u8 27), .lit (.int .u8 60), .lit (.int .u8 41), .lit (.int .u8 37), .lit (.int .u8 16), .lit (.int .u8 46), .lit (.int .u8 35), .lit (.int .u8 44), .lit (.int .u8 21), .lit (.int .u8 52), .lit (.int .u8 32), .lit (.int .u8 23), .lit (.int .u8 11), .lit (.int .u8 54), .lit (.int .u8 26), .lit (.int .u8 40), .lit (.int .u8 15), .lit (.int .u8 34), .lit (.int .u8 20), .lit (.int .u8 31), .lit (.int .u8 10), .lit (.int .u8 25), .lit (.int .u8 14), .lit (.int .u8 19), .lit (.int .u8 9), .lit (.int .u8 13), .lit (.int .u8 8), .lit (.int .u8 7), .lit (.int .u8 6)]

/-- 'vizardlaw14.CacheTokens': WHATEVER THE INPUT: true; the input reads as it did. -/
def cacheTokensSpec : ChangeSpec := { name := "cacheTokens", fn := fun _ => fun
  | [d1, d2, d3, d4, d5] => { results := [.lit (.bool true)], args := [d1, d2, d3, d4, d5] }
  | _ => none }
def cacheTokensRow : OpenClaim := { program := "ytgidjgkafbjkpaagreatdoor", sum := "cab463d1d0b68a05af525e645cdbd2ce9a8613d2217a6bf68319cfecfc7f85bd", func := "vizard/vizardlaw14.CacheTokens", spec := "cacheTokens", inPlace := ["maps.clone"], unfollowed := true, recurses := true, named := ["math/bits.deBruijn64tab"], apart := false, laid := [("math/bits.deBruijn64tab", laid_math_bits_deBruijn64tab)] }
def CacheTokensSaid : Prop := cacheTokensRow.holds Tryz.pinned (OpenSpec.ofChange cacheTokensSpec)

/-- ITS FALSE NEIGHBOUR: 'it returns false'. Refute it at one input. -/
def cacheTokensWrong : ChangeSpec := { name := "cacheTokens", fn := fun _ => fun
  | [d1, d2, d3, d4, d5] => { results := [.lit (.bool false)], args := [d1, d2, d3, d4, d5] }
  | _ => none }
def CacheTokensWrongFalsely : Prop := cacheTokensRow.holds Tryz.pinned (OpenSpec.ofChange cacheTokensWrong)

/-- 'vizardlaw14.CacheFinds': WHATEVER THE INPUT: true; the input reads as it did. -/
def cacheFindsSpec : ChangeSpec := { name := "cacheFinds", fn := fun _ => fun
  | [d1, d2, d3, d4, d5] => { results := [.lit (.bool true)], args := [d1, d2, d3, d4, d5] }
  | _ => none }
def cacheFindsRow : OpenClaim := { program := "ytgidjgkafbjkpaagreatdoor", sum := "cab463d1d0b68a05af525e645cdbd2ce9a8613d2217a6bf68319cfecfc7f85bd", func := "vizard/vizardlaw14.CacheFinds", spec := "cacheFinds", inPlace := ["maps.clone"], unfollowed := true, recurses := true, named := ["math/bits.deBruijn64tab"], apart := false, laid := [("math/bits.deBruijn64tab", laid_math_bits_deBruijn64tab)] }
def CacheFindsSaid : Prop := cacheFindsRow.holds Tryz.pinned (OpenSpec.ofChange cacheFindsSpec)

/-- ITS FALSE NEIGHBOUR: 'it returns false'. Refute it at one input. -/
def cacheFindsWrong : ChangeSpec := { name := "cacheFinds", fn := fun _ => fun
  | [d1, d2, d3, d4, d5] => { results := [.lit (.bool false)], args := [d1, d2, d3, d4, d5] }
  | _ => none }
def CacheFindsWrongFalsely : Prop := cacheFindsRow.holds Tryz.pinned (OpenSpec.ofChange cacheFindsWrong)

/-- 'vizardlaw14.CacheFirst': WHATEVER THE INPUT: true; the input reads as it did. -/
def cacheFirstSpec : ChangeSpec := { name := "cacheFirst", fn := fun _ => fun
  | [d1, d2, d3, d4, d5, d6] => { results := [.lit (.bool true)], args := [d1, d2, d3, d4, d5, d6] }
  | _ => none }
def cacheFirstRow : OpenClaim := { program := "ytgidjgkafbjkpaagreatdoor", sum := "cab463d1d0b68a05af525e645cdbd2ce9a8613d2217a6bf68319cfecfc7f85bd", func := "vizard/vizardlaw14.CacheFirst", spec := "cacheFirst", inPlace := ["maps.clone"], unfollowed := true, recurses := true, named := ["math/bits.deBruijn64tab"], apart := false, laid := [("math/bits.deBruijn64tab", laid_math_bits_deBruijn64tab)] }
def CacheFirstSaid : Prop := cacheFirstRow.holds Tryz.pinned (OpenSpec.ofChange cacheFirstSpec)

/-- ITS FALSE NEIGHBOUR: 'it returns false'. Refute it at one input. -/
def cacheFirstWrong : ChangeSpec := { name := "cacheFirst", fn := fun _ => fun
  | [d1, d2, d3, d4, d5, d6] => { results := [.lit (.bool false)], args := [d1, d2, d3, d4, d5, d6] }
  | _ => none }
def CacheFirstWrongFalsely : Prop := cacheFirstRow.holds Tryz.pinned (OpenSpec.ofChange cacheFirstWrong)

/-- 'vizardlaw14.CacheSweeps': WHATEVER THE INPUT: true; the input reads as it did. -/
def cacheSweepsSpec : ChangeSpec := { name := "cacheSweeps", fn := fun _ => fun
  | [d1, d2, d3, d4, d5, d6] => { results := [.lit (.bool true)], args := [d1, d2, d3, d4, d5, d6] }
  | _ => none }
def cacheSweepsRow : OpenClaim := { program := "ytgidjgkafbjkpaagreatdoor", sum := "cab463d1d0b68a05af525e645cdbd2ce9a8613d2217a6bf68319cfecfc7f85bd", func := "vizard/vizardlaw14.CacheSweeps", spec := "cacheSweeps", inPlace := ["maps.clone"], unfollowed := true, recurses := true, named := ["math/bits.deBruijn64tab"], apart := false, laid := [("math/bits.deBruijn64tab", laid_math_bits_deBruijn64tab)] }
def CacheSweepsSaid : Prop := cacheSweepsRow.holds Tryz.pinned (OpenSpec.ofChange cacheSweepsSpec)

/-- ITS FALSE NEIGHBOUR: 'it returns false'. Refute it at one input. -/
def cacheSweepsWrong : ChangeSpec := { name := "cacheSweeps", fn := fun _ => fun
  | [d1, d2, d3, d4, d5, d6] => { results := [.lit (.bool false)], args := [d1, d2, d3, d4, d5, d6] }
  | _ => none }
def CacheSweepsWrongFalsely : Prop := cacheSweepsRow.holds Tryz.pinned (OpenSpec.ofChange cacheSweepsWrong)

/- THE SECOND FORM. 'bulk': how many values and letters a reading holds, each counted each time it is reached (what is shared counts as often as it is met; a slice's spare places count too). A statement '..UptoSaid' is the law's where the arguments, and the package variables that the reading takes, are together of bulk at most 1048576: NARROWER than '..Said'. Prove '..Said' where nothing that the law and all that it calls make is longer than what came in: it says more and counts as full. Else prove '..UptoSaid'. A law counts once. -/
mutual
def uptoBulk {H : Type} : DataW H → Nat
  | .lit (.string bytes) => bytes.length + 1
  | .lit _ => 1
  | .nil => 1
  | .ptr d => uptoBulk d + 1
  | .slice elems spare => uptoBulkAll elems + uptoBulkAll spare + 1
  | .agg parts => uptoBulkAll parts + 1
  | .iface _ d => uptoBulk d + 1
  | .map entries => uptoBulkEntries entries + 1
  | .held _ => 1
def uptoBulkAll {H : Type} : List (DataW H) → Nat
  | [] => 0
  | d :: r => uptoBulk d + uptoBulkAll r
def uptoBulkEntries {H : Type} : List (Lit × DataW H) → Nat
  | [] => 0
  | x :: r => uptoBulkEntry x + uptoBulkEntries r
def uptoBulkEntry {H : Type} : Lit × DataW H → Nat
  | (.string bytes, d) => bytes.length + uptoBulk d + 1
  | (_, d) => uptoBulk d + 1
 end
def uptoSmall : (H : Type) → List (DataW H) → Bool := fun _ ds => decide (uptoBulkAll ds ≤ 1048576)
def OpenSpec.upto (s : _root_.Go.ChangeSpec) : _root_.Go.OpenSpec := { _root_.Go.OpenSpec.ofChange s with cond := some uptoSmall }

/-- 'vizardlaw14.CacheTokens', WHERE WHAT IT READS IS OF BULK AT MOST 1048576: true; the input reads as it did. -/
def cacheTokensUptoRow : OpenClaim := { program := "ytgidjgkafbjkpaagreatdoor", sum := "cab463d1d0b68a05af525e645cdbd2ce9a8613d2217a6bf68319cfecfc7f85bd", func := "vizard/vizardlaw14.CacheTokens", spec := "cacheTokens", inPlace := ["maps.clone"], unfollowed := true, recurses := true, named := ["math/bits.deBruijn64tab"], apart := false, laid := [("math/bits.deBruijn64tab", laid_math_bits_deBruijn64tab)], narrowed := true }
def CacheTokensUptoSaid : Prop := cacheTokensUptoRow.holds Tryz.pinned (OpenSpec.upto cacheTokensSpec)

/-- 'vizardlaw14.CacheFinds', WHERE WHAT IT READS IS OF BULK AT MOST 1048576: true; the input reads as it did. -/
def cacheFindsUptoRow : OpenClaim := { program := "ytgidjgkafbjkpaagreatdoor", sum := "cab463d1d0b68a05af525e645cdbd2ce9a8613d2217a6bf68319cfecfc7f85bd", func := "vizard/vizardlaw14.CacheFinds", spec := "cacheFinds", inPlace := ["maps.clone"], unfollowed := true, recurses := true, named := ["math/bits.deBruijn64tab"], apart := false, laid := [("math/bits.deBruijn64tab", laid_math_bits_deBruijn64tab)], narrowed := true }
def CacheFindsUptoSaid : Prop := cacheFindsUptoRow.holds Tryz.pinned (OpenSpec.upto cacheFindsSpec)

/-- 'vizardlaw14.CacheFirst', WHERE WHAT IT READS IS OF BULK AT MOST 1048576: true; the input reads as it did. -/
def cacheFirstUptoRow : OpenClaim := { program := "ytgidjgkafbjkpaagreatdoor", sum := "cab463d1d0b68a05af525e645cdbd2ce9a8613d2217a6bf68319cfecfc7f85bd", func := "vizard/vizardlaw14.CacheFirst", spec := "cacheFirst", inPlace := ["maps.clone"], unfollowed := true, recurses := true, named := ["math/bits.deBruijn64tab"], apart := false, laid := [("math/bits.deBruijn64tab", laid_math_bits_deBruijn64tab)], narrowed := true }
def CacheFirstUptoSaid : Prop := cacheFirstUptoRow.holds Tryz.pinned (OpenSpec.upto cacheFirstSpec)

/-- 'vizardlaw14.CacheSweeps', WHERE WHAT IT READS IS OF BULK AT MOST 1048576: true; the input reads as it did. -/
def cacheSweepsUptoRow : OpenClaim := { program := "ytgidjgkafbjkpaagreatdoor", sum := "cab463d1d0b68a05af525e645cdbd2ce9a8613d2217a6bf68319cfecfc7f85bd", func := "vizard/vizardlaw14.CacheSweeps", spec := "cacheSweeps", inPlace := ["maps.clone"], unfollowed := true, recurses := true, named := ["math/bits.deBruijn64tab"], apart := false, laid := [("math/bits.deBruijn64tab", laid_math_bits_deBruijn64tab)], narrowed := true }
def CacheSweepsUptoSaid : Prop := cacheSweepsUptoRow.holds Tryz.pinned (OpenSpec.upto cacheSweepsSpec)

end Rows
end Go.Proofs.YtgidjgkafbjkpaaGreatDoor
