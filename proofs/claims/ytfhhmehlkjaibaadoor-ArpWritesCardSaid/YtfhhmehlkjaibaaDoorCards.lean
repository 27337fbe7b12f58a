/-
  DERIVED. GIVEN WITH THE SEED: THE CARDS: each row of YtfhhmehlkjaibaaDoorRows.lean that lists a variable, with what it lists TIED to the program's text (the seventh form; the later family's looks); each row that meets fmt, with fmt's text TOLD by the authors' own Lean function (tested against real Go, not proved from fmt's source: count such statements apart). THE CARD IS WHAT COUNTS. Prove the row's statement (the work); the ties are given (YtfhhmehlkjaibaaDoorTie.lean); close each card by the builder's one call (the guide's Derived/Test/ToyasCard.lean, 'card_holds'). Laid BY PROGRAM, IN A SANDBOX (cutbox-door.mjs). By AI agents, Wed Nov 11 2026. No macro, syntax, notation, axiom, sorry.
-/
import Derived.Test.YtfhhmehlkjaibaaDoorRows
import GoSem.ClaimSeven
namespace Go.Proofs.YtfhhmehlkjaibaaDoor
namespace Rows

/-- THE TIED CARD OF 'vizardlaw02.WhyChains'. -/
def whyChainsCard : Claim7 := { stood := { row := whyChainsRow, standIns := [], harness := (true, "aa5f129d3f5e4ee35be9eb3f435f960d5429438cace2b063a96e92f9d64ab5b6"), looks := true }, kinds := [], alts := [], laidByText := true, laidKinds := [.handle], laidTests := true, laidLooks := .later }
def WhyChainsCardSaid : Prop := Claim7.holds Tryd.pinned (.plain (OpenSpec.ofChange whyChainsSpec)) whyChainsCard

/-- THE TIED CARD OF 'vizardlaw06.ArpParses'. -/
def arpParsesCard : Claim7 := { stood := { row := arpParsesRow, standIns := [], harness := (true, "aa5f129d3f5e4ee35be9eb3f435f960d5429438cace2b063a96e92f9d64ab5b6"), looks := true }, kinds := [], alts := [], laidByText := true, laidKinds := [.handle], laidTests := true, laidLooks := .later }
def ArpParsesCardSaid : Prop := Claim7.holds Tryd.pinned (.plain (OpenSpec.ofChange arpParsesSpec)) arpParsesCard

/-- THE TIED CARD OF 'vizardlaw06.ArpWrites'. -/
def arpWritesCard : Claim7 := { stood := { row := arpWritesRow, standIns := [], harness := (true, "aa5f129d3f5e4ee35be9eb3f435f960d5429438cace2b063a96e92f9d64ab5b6"), looks := true }, kinds := [], alts := [], laidByText := true, laidKinds := [.handle], laidTests := true, laidLooks := .later }
def ArpWritesCardSaid : Prop := Claim7.holds Tryd.pinned (.plain (OpenSpec.ofChange arpWritesSpec)) arpWritesCard

/-- THE TIED CARD OF 'vizardlaw06.ArpTells'. -/
def arpTellsCard : Claim7 := { stood := { row := arpTellsRow, standIns := [], harness := (true, "aa5f129d3f5e4ee35be9eb3f435f960d5429438cace2b063a96e92f9d64ab5b6"), looks := true }, kinds := [], alts := [], laidByText := true, laidKinds := [.handle], laidTests := true, laidLooks := .later }
def ArpTellsCardSaid : Prop := Claim7.holds Tryd.pinned (.plain (OpenSpec.ofChange arpTellsSpec)) arpTellsCard

/-- THE TIED CARD OF 'vizardlaw06.ArpCuts'. -/
def arpCutsCard : Claim7 := { stood := { row := arpCutsRow, standIns := [], harness := (true, "aa5f129d3f5e4ee35be9eb3f435f960d5429438cace2b063a96e92f9d64ab5b6"), looks := true }, kinds := [], alts := [], laidByText := true, laidKinds := [.handle], laidTests := true, laidLooks := .later }
def ArpCutsCardSaid : Prop := Claim7.holds Tryd.pinned (.plain (OpenSpec.ofChange arpCutsSpec)) arpCutsCard

/-- THE SECOND FORM's CARD OF 'vizardlaw02.WhyChains'. -/
def whyChainsUptoCard : Claim7 := { stood := { row := whyChainsUptoRow, standIns := [], harness := (true, "aa5f129d3f5e4ee35be9eb3f435f960d5429438cace2b063a96e92f9d64ab5b6"), looks := true }, kinds := [], alts := [], laidByText := true, laidKinds := [.handle], laidTests := true, laidLooks := .later }
def WhyChainsUptoCardSaid : Prop := Claim7.holds Tryd.pinned (.plain (OpenSpec.upto whyChainsSpec)) whyChainsUptoCard

/-- THE SECOND FORM's CARD OF 'vizardlaw06.ArpParses'. -/
def arpParsesUptoCard : Claim7 := { stood := { row := arpParsesUptoRow, standIns := [], harness := (true, "aa5f129d3f5e4ee35be9eb3f435f960d5429438cace2b063a96e92f9d64ab5b6"), looks := true }, kinds := [], alts := [], laidByText := true, laidKinds := [.handle], laidTests := true, laidLooks := .later }
def ArpParsesUptoCardSaid : Prop := Claim7.holds Tryd.pinned (.plain (OpenSpec.upto arpParsesSpec)) arpParsesUptoCard

/-- THE SECOND FORM's CARD OF 'vizardlaw06.ArpWrites'. -/
def arpWritesUptoCard : Claim7 := { stood := { row := arpWritesUptoRow, standIns := [], harness := (true, "aa5f129d3f5e4ee35be9eb3f435f960d5429438cace2b063a96e92f9d64ab5b6"), looks := true }, kinds := [], alts := [], laidByText := true, laidKinds := [.handle], laidTests := true, laidLooks := .later }
def ArpWritesUptoCardSaid : Prop := Claim7.holds Tryd.pinned (.plain (OpenSpec.upto arpWritesSpec)) arpWritesUptoCard

/-- THE SECOND FORM's CARD OF 'vizardlaw06.ArpTells'. -/
def arpTellsUptoCard : Claim7 := { stood := { row := arpTellsUptoRow, standIns := [], harness := (true, "aa5f129d3f5e4ee35be9eb3f435f960d5429438cace2b063a96e92f9d64ab5b6"), looks := true }, kinds := [], alts := [], laidByText := true, laidKinds := [.handle], laidTests := true, laidLooks := .later }
def ArpTellsUptoCardSaid : Prop := Claim7.holds Tryd.pinned (.plain (OpenSpec.upto arpTellsSpec)) arpTellsUptoCard

/-- THE SECOND FORM's CARD OF 'vizardlaw06.ArpCuts'. -/
def arpCutsUptoCard : Claim7 := { stood := { row := arpCutsUptoRow, standIns := [], harness := (true, "aa5f129d3f5e4ee35be9eb3f435f960d5429438cace2b063a96e92f9d64ab5b6"), looks := true }, kinds := [], alts := [], laidByText := true, laidKinds := [.handle], laidTests := true, laidLooks := .later }
def ArpCutsUptoCardSaid : Prop := Claim7.holds Tryd.pinned (.plain (OpenSpec.upto arpCutsSpec)) arpCutsUptoCard
end Rows
end Go.Proofs.YtfhhmehlkjaibaaDoor
