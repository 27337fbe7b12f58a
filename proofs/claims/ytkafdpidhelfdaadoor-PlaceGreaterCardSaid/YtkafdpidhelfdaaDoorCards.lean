/-
  DERIVED. GIVEN WITH THE SEED: THE CARDS: each row of YtkafdpidhelfdaaDoorRows.lean that lists a variable, with what it lists TIED to the program's text (the seventh form; the later family's looks); each row that meets fmt, with fmt's text TOLD by the authors' own Lean function (tested against real Go, not proved from fmt's source: count such statements apart). THE CARD IS WHAT COUNTS. Prove the row's statement (the work); the ties are given (YtkafdpidhelfdaaDoorTie.lean); close each card by the builder's one call (the guide's Derived/Test/ToyasCard.lean, 'card_holds'). Laid BY PROGRAM, IN A SANDBOX (cutbox-door.mjs). By AI agents, Wed Nov 11 2026. No macro, syntax, notation, axiom, sorry.
-/
import Derived.Test.YtkafdpidhelfdaaDoorRows
import GoSem.ClaimSeven
namespace Go.Proofs.YtkafdpidhelfdaaDoor
namespace Rows

/-- THE TIED CARD OF 'vizardlaw04.PlaceNets'. -/
def placeNetsCard : Claim7 := { stood := { row := placeNetsRow, standIns := [], harness := (true, "498f3919cf737836c109d3c7dd9f604327dc0c7d9cd4042c4c55bd43918d9e29"), looks := true }, kinds := [], alts := [], laidByText := true, laidKinds := [.data, .data, .data, .data, .sentinel, .sentinel, .pinned], laidTests := true, laidLooks := .later }
def PlaceNetsCardSaid : Prop := Claim7.holds Tryd.pinned (.plain (OpenSpec.ofChange placeNetsSpec)) placeNetsCard

/-- THE TIED CARD OF 'vizardlaw04.PlaceTexts'. -/
def placeTextsCard : Claim7 := { stood := { row := placeTextsRow, standIns := [], harness := (true, "498f3919cf737836c109d3c7dd9f604327dc0c7d9cd4042c4c55bd43918d9e29"), looks := true }, kinds := [], alts := [], laidByText := true, laidKinds := [.data, .data, .data, .data, .sentinel, .sentinel, .pinned], laidTests := true, laidLooks := .later }
def PlaceTextsCardSaid : Prop := Claim7.holds Tryd.pinned (.plain (OpenSpec.ofChange placeTextsSpec)) placeTextsCard

/-- THE TIED CARD OF 'vizardlaw04.PlaceHosts'. -/
def placeHostsCard : Claim7 := { stood := { row := placeHostsRow, standIns := [], harness := (true, "498f3919cf737836c109d3c7dd9f604327dc0c7d9cd4042c4c55bd43918d9e29"), looks := true }, kinds := [], alts := [], laidByText := true, laidKinds := [.data, .data, .data, .data, .sentinel, .sentinel, .pinned], laidTests := true, laidLooks := .later }
def PlaceHostsCardSaid : Prop := Claim7.holds Tryd.pinned (.plain (OpenSpec.ofChange placeHostsSpec)) placeHostsCard

/-- THE TIED CARD OF 'vizardlaw04.PlaceGreater'. -/
def placeGreaterCard : Claim7 := { stood := { row := placeGreaterRow, standIns := [], harness := (true, "498f3919cf737836c109d3c7dd9f604327dc0c7d9cd4042c4c55bd43918d9e29"), looks := true }, kinds := [], alts := [], laidByText := true, laidKinds := [.data, .data, .data, .data, .sentinel, .sentinel, .pinned], laidTests := true, laidLooks := .later }
def PlaceGreaterCardSaid : Prop := Claim7.holds Tryd.pinned (.plain (OpenSpec.ofChange placeGreaterSpec)) placeGreaterCard

/-- THE SECOND FORM's CARD OF 'vizardlaw04.PlaceNets'. -/
def placeNetsUptoCard : Claim7 := { stood := { row := placeNetsUptoRow, standIns := [], harness := (true, "498f3919cf737836c109d3c7dd9f604327dc0c7d9cd4042c4c55bd43918d9e29"), looks := true }, kinds := [], alts := [], laidByText := true, laidKinds := [.data, .data, .data, .data, .sentinel, .sentinel, .pinned], laidTests := true, laidLooks := .later }
def PlaceNetsUptoCardSaid : Prop := Claim7.holds Tryd.pinned (.plain (OpenSpec.upto placeNetsSpec)) placeNetsUptoCard

/-- THE SECOND FORM's CARD OF 'vizardlaw04.PlaceTexts'. -/
def placeTextsUptoCard : Claim7 := { stood := { row := placeTextsUptoRow, standIns := [], harness := (true, "498f3919cf737836c109d3c7dd9f604327dc0c7d9cd4042c4c55bd43918d9e29"), looks := true }, kinds := [], alts := [], laidByText := true, laidKinds := [.data, .data, .data, .data, .sentinel, .sentinel, .pinned], laidTests := true, laidLooks := .later }
def PlaceTextsUptoCardSaid : Prop := Claim7.holds Tryd.pinned (.plain (OpenSpec.upto placeTextsSpec)) placeTextsUptoCard

/-- THE SECOND FORM's CARD OF 'vizardlaw04.PlaceHosts'. -/
def placeHostsUptoCard : Claim7 := { stood := { row := placeHostsUptoRow, standIns := [], harness := (true, "498f3919cf737836c109d3c7dd9f604327dc0c7d9cd4042c4c55bd43918d9e29"), looks := true }, kinds := [], alts := [], laidByText := true, laidKinds := [.data, .data, .data, .data, .sentinel, .sentinel, .pinned], laidTests := true, laidLooks := .later }
def PlaceHostsUptoCardSaid : Prop := Claim7.holds Tryd.pinned (.plain (OpenSpec.upto placeHostsSpec)) placeHostsUptoCard

/-- THE SECOND FORM's CARD OF 'vizardlaw04.PlaceGreater'. -/
def placeGreaterUptoCard : Claim7 := { stood := { row := placeGreaterUptoRow, standIns := [], harness := (true, "498f3919cf737836c109d3c7dd9f604327dc0c7d9cd4042c4c55bd43918d9e29"), looks := true }, kinds := [], alts := [], laidByText := true, laidKinds := [.data, .data, .data, .data, .sentinel, .sentinel, .pinned], laidTests := true, laidLooks := .later }
def PlaceGreaterUptoCardSaid : Prop := Claim7.holds Tryd.pinned (.plain (OpenSpec.upto placeGreaterSpec)) placeGreaterUptoCard
end Rows
end Go.Proofs.YtkafdpidhelfdaaDoor
