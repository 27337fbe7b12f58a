/-
  DERIVED. GIVEN WITH THE SEED: THE CARDS: each row of YtdakkmaahgcjfaaDoorRows.lean that lists a variable, with what it lists TIED to the program's text (the seventh form; the later family's looks); each row that meets fmt, with fmt's text TOLD by the authors' own Lean function (tested against real Go, not proved from fmt's source: count such statements apart). THE CARD IS WHAT COUNTS. Prove the row's statement (the work); the ties are given (YtdakkmaahgcjfaaDoorTie.lean); close each card by the builder's one call (the guide's Derived/Test/ToyasCard.lean, 'card_holds'). Laid BY PROGRAM, IN A SANDBOX (cutbox-door.mjs). By AI agents, Wed Nov 11 2026. No macro, syntax, notation, axiom, sorry.
-/
import Derived.Test.YtdakkmaahgcjfaaDoorRows
import GoSem.ClaimSeven
namespace Go.Proofs.YtdakkmaahgcjfaaDoor
namespace Rows

/-- THE TIED CARD OF 'vizardlaw13.WheelCalls'. -/
def wheelCallsCard : Claim7 := { stood := { row := wheelCallsRow, standIns := [], harness := (true, "237d1e4af92830c956825046cc1b495a6ad98d336231aeb7de6b37d6d7909fd6"), looks := false }, kinds := [], alts := [], laidByText := true, laidKinds := [.data], laidTests := true, laidLooks := .later }
def WheelCallsCardSaid : Prop := Claim7.holds Tryd.pinned (.plain (OpenSpec.ofChange wheelCallsSpec)) wheelCallsCard

/-- THE TIED CARD OF 'vizardlaw13.WheelOnce'. -/
def wheelOnceCard : Claim7 := { stood := { row := wheelOnceRow, standIns := [], harness := (true, "237d1e4af92830c956825046cc1b495a6ad98d336231aeb7de6b37d6d7909fd6"), looks := false }, kinds := [], alts := [], laidByText := true, laidKinds := [.data], laidTests := true, laidLooks := .later }
def WheelOnceCardSaid : Prop := Claim7.holds Tryd.pinned (.plain (OpenSpec.ofChange wheelOnceSpec)) wheelOnceCard

/-- THE TIED CARD OF 'vizardlaw13.WheelSteps'. -/
def wheelStepsCard : Claim7 := { stood := { row := wheelStepsRow, standIns := [], harness := (true, "237d1e4af92830c956825046cc1b495a6ad98d336231aeb7de6b37d6d7909fd6"), looks := false }, kinds := [], alts := [], laidByText := true, laidKinds := [.data], laidTests := true, laidLooks := .later }
def WheelStepsCardSaid : Prop := Claim7.holds Tryd.pinned (.plain (OpenSpec.ofChange wheelStepsSpec)) wheelStepsCard

/-- THE TIED CARD OF 'vizardlaw13.WheelCancels'. -/
def wheelCancelsCard : Claim7 := { stood := { row := wheelCancelsRow, standIns := [], harness := (true, "237d1e4af92830c956825046cc1b495a6ad98d336231aeb7de6b37d6d7909fd6"), looks := false }, kinds := [], alts := [], laidByText := true, laidKinds := [.data], laidTests := true, laidLooks := .later }
def WheelCancelsCardSaid : Prop := Claim7.holds Tryd.pinned (.plain (OpenSpec.ofChange wheelCancelsSpec)) wheelCancelsCard

/-- THE TIED CARD OF 'vizardlaw13.WheelNext'. -/
def wheelNextCard : Claim7 := { stood := { row := wheelNextRow, standIns := [], harness := (true, "237d1e4af92830c956825046cc1b495a6ad98d336231aeb7de6b37d6d7909fd6"), looks := false }, kinds := [], alts := [], laidByText := true, laidKinds := [.data], laidTests := true, laidLooks := .later }
def WheelNextCardSaid : Prop := Claim7.holds Tryd.pinned (.plain (OpenSpec.ofChange wheelNextSpec)) wheelNextCard

/-- THE SECOND FORM's CARD OF 'vizardlaw13.WheelCalls'. -/
def wheelCallsUptoCard : Claim7 := { stood := { row := wheelCallsUptoRow, standIns := [], harness := (true, "237d1e4af92830c956825046cc1b495a6ad98d336231aeb7de6b37d6d7909fd6"), looks := false }, kinds := [], alts := [], laidByText := true, laidKinds := [.data], laidTests := true, laidLooks := .later }
def WheelCallsUptoCardSaid : Prop := Claim7.holds Tryd.pinned (.plain (OpenSpec.upto wheelCallsSpec)) wheelCallsUptoCard

/-- THE SECOND FORM's CARD OF 'vizardlaw13.WheelOnce'. -/
def wheelOnceUptoCard : Claim7 := { stood := { row := wheelOnceUptoRow, standIns := [], harness := (true, "237d1e4af92830c956825046cc1b495a6ad98d336231aeb7de6b37d6d7909fd6"), looks := false }, kinds := [], alts := [], laidByText := true, laidKinds := [.data], laidTests := true, laidLooks := .later }
def WheelOnceUptoCardSaid : Prop := Claim7.holds Tryd.pinned (.plain (OpenSpec.upto wheelOnceSpec)) wheelOnceUptoCard

/-- THE SECOND FORM's CARD OF 'vizardlaw13.WheelSteps'. -/
def wheelStepsUptoCard : Claim7 := { stood := { row := wheelStepsUptoRow, standIns := [], harness := (true, "237d1e4af92830c956825046cc1b495a6ad98d336231aeb7de6b37d6d7909fd6"), looks := false }, kinds := [], alts := [], laidByText := true, laidKinds := [.data], laidTests := true, laidLooks := .later }
def WheelStepsUptoCardSaid : Prop := Claim7.holds Tryd.pinned (.plain (OpenSpec.upto wheelStepsSpec)) wheelStepsUptoCard

/-- THE SECOND FORM's CARD OF 'vizardlaw13.WheelCancels'. -/
def wheelCancelsUptoCard : Claim7 := { stood := { row := wheelCancelsUptoRow, standIns := [], harness := (true, "237d1e4af92830c956825046cc1b495a6ad98d336231aeb7de6b37d6d7909fd6"), looks := false }, kinds := [], alts := [], laidByText := true, laidKinds := [.data], laidTests := true, laidLooks := .later }
def WheelCancelsUptoCardSaid : Prop := Claim7.holds Tryd.pinned (.plain (OpenSpec.upto wheelCancelsSpec)) wheelCancelsUptoCard

/-- THE SECOND FORM's CARD OF 'vizardlaw13.WheelNext'. -/
def wheelNextUptoCard : Claim7 := { stood := { row := wheelNextUptoRow, standIns := [], harness := (true, "237d1e4af92830c956825046cc1b495a6ad98d336231aeb7de6b37d6d7909fd6"), looks := false }, kinds := [], alts := [], laidByText := true, laidKinds := [.data], laidTests := true, laidLooks := .later }
def WheelNextUptoCardSaid : Prop := Claim7.holds Tryd.pinned (.plain (OpenSpec.upto wheelNextSpec)) wheelNextUptoCard
end Rows
end Go.Proofs.YtdakkmaahgcjfaaDoor
