/-
  DERIVED. GIVEN WITH THE SEED: THE CARDS: each row of YtconpcnmccmbiaaDoorRows.lean that lists a variable, with what it lists TIED to the program's text (the seventh form; the later family's looks); each row that meets fmt, with fmt's text TOLD by the authors' own Lean function (tested against real Go, not proved from fmt's source: count such statements apart). THE CARD IS WHAT COUNTS. Prove the row's statement (the work); the ties are given (YtconpcnmccmbiaaDoorTie.lean); close each card by the builder's one call (the guide's Derived/Test/ToyasCard.lean, 'card_holds'). Laid BY PROGRAM, IN A SANDBOX (cutbox-door.mjs). By AI agents, Wed Nov 11 2026. No macro, syntax, notation, axiom, sorry.
-/
import Derived.Test.YtconpcnmccmbiaaDoorRows
import GoSem.ClaimSeven
namespace Go.Proofs.YtconpcnmccmbiaaDoor
namespace Rows

/-- THE TIED CARD OF 'vizardlaw18.PortsCalls'. -/
def portsCallsCard : Claim7 := { stood := { row := portsCallsRow, standIns := [], harness := (true, "ee2a3598ccfd1d7040374d64d33bb45ce5888eb16d49dbc5e6c38385570d3e01"), looks := true }, kinds := [], alts := [], laidByText := true, laidKinds := [.data], laidTests := true, laidLooks := .later }
def PortsCallsCardSaid : Prop := Claim7.holds Tryd.pinned (.plain (OpenSpec.ofChange portsCallsSpec)) portsCallsCard

/-- THE TIED CARD OF 'vizardlaw18.PortsOnce'. -/
def portsOnceCard : Claim7 := { stood := { row := portsOnceRow, standIns := [], harness := (true, "ee2a3598ccfd1d7040374d64d33bb45ce5888eb16d49dbc5e6c38385570d3e01"), looks := true }, kinds := [], alts := [], laidByText := true, laidKinds := [.data], laidTests := true, laidLooks := .later }
def PortsOnceCardSaid : Prop := Claim7.holds Tryd.pinned (.plain (OpenSpec.ofChange portsOnceSpec)) portsOnceCard

/-- THE TIED CARD OF 'vizardlaw18.PortsAll'. -/
def portsAllCard : Claim7 := { stood := { row := portsAllRow, standIns := [], harness := (true, "ee2a3598ccfd1d7040374d64d33bb45ce5888eb16d49dbc5e6c38385570d3e01"), looks := true }, kinds := [], alts := [], laidByText := true, laidKinds := [.data], laidTests := true, laidLooks := .later }
def PortsAllCardSaid : Prop := Claim7.holds Tryd.pinned (.plain (OpenSpec.ofChange portsAllSpec)) portsAllCard

/-- THE TIED CARD OF 'vizardlaw18.PortsRound'. -/
def portsRoundCard : Claim7 := { stood := { row := portsRoundRow, standIns := [], harness := (true, "ee2a3598ccfd1d7040374d64d33bb45ce5888eb16d49dbc5e6c38385570d3e01"), looks := true }, kinds := [], alts := [], laidByText := true, laidKinds := [.data], laidTests := true, laidLooks := .later }
def PortsRoundCardSaid : Prop := Claim7.holds Tryd.pinned (.plain (OpenSpec.ofChange portsRoundSpec)) portsRoundCard

/-- THE TIED CARD OF 'vizardlaw02.WhyChains'. -/
def whyChainsCard : Claim7 := { stood := { row := whyChainsRow, standIns := [], harness := (true, "ee2a3598ccfd1d7040374d64d33bb45ce5888eb16d49dbc5e6c38385570d3e01"), looks := true }, kinds := [], alts := [], laidByText := true, laidKinds := [.handle], laidTests := true, laidLooks := .later }
def WhyChainsCardSaid : Prop := Claim7.holds Tryd.pinned (.plain (OpenSpec.ofChange whyChainsSpec)) whyChainsCard

/-- THE TIED CARD OF 'vizardlaw02.WhyWords'. -/
def whyWordsCard : Claim7 := { stood := { row := whyWordsRow, standIns := [], harness := (true, "ee2a3598ccfd1d7040374d64d33bb45ce5888eb16d49dbc5e6c38385570d3e01"), looks := true }, kinds := [], alts := [], laidByText := true, laidKinds := [.handle], laidTests := true, laidLooks := .later }
def WhyWordsCardSaid : Prop := Claim7.holds Tryd.pinned (.plain (OpenSpec.ofChange whyWordsSpec)) whyWordsCard

/-- THE TIED CARD OF 'vizardlaw02.WhyDeep'. -/
def whyDeepCard : Claim7 := { stood := { row := whyDeepRow, standIns := [], harness := (true, "ee2a3598ccfd1d7040374d64d33bb45ce5888eb16d49dbc5e6c38385570d3e01"), looks := true }, kinds := [], alts := [], laidByText := true, laidKinds := [.handle], laidTests := true, laidLooks := .later }
def WhyDeepCardSaid : Prop := Claim7.holds Tryd.pinned (.plain (OpenSpec.ofChange whyDeepSpec)) whyDeepCard

/-- THE TIED CARD OF 'vizardlaw02.WhyOnce'. -/
def whyOnceCard : Claim7 := { stood := { row := whyOnceRow, standIns := [], harness := (true, "ee2a3598ccfd1d7040374d64d33bb45ce5888eb16d49dbc5e6c38385570d3e01"), looks := true }, kinds := [], alts := [], laidByText := true, laidKinds := [.handle], laidTests := true, laidLooks := .later }
def WhyOnceCardSaid : Prop := Claim7.holds Tryd.pinned (.plain (OpenSpec.ofChange whyOnceSpec)) whyOnceCard

/-- THE TIED CARD OF 'vizardlaw05.EtherParses'. -/
def etherParsesCard : Claim7 := { stood := { row := etherParsesRow, standIns := [], harness := (true, "ee2a3598ccfd1d7040374d64d33bb45ce5888eb16d49dbc5e6c38385570d3e01"), looks := true }, kinds := [], alts := [], laidByText := true, laidKinds := [.handle], laidTests := true, laidLooks := .later }
def EtherParsesCardSaid : Prop := Claim7.holds Tryd.pinned (.plain (OpenSpec.ofChange etherParsesSpec)) etherParsesCard

/-- THE TIED CARD OF 'vizardlaw05.EtherWrites'. -/
def etherWritesCard : Claim7 := { stood := { row := etherWritesRow, standIns := [], harness := (true, "ee2a3598ccfd1d7040374d64d33bb45ce5888eb16d49dbc5e6c38385570d3e01"), looks := true }, kinds := [], alts := [], laidByText := true, laidKinds := [.handle], laidTests := true, laidLooks := .later }
def EtherWritesCardSaid : Prop := Claim7.holds Tryd.pinned (.plain (OpenSpec.ofChange etherWritesSpec)) etherWritesCard

/-- THE TIED CARD OF 'vizardlaw05.EtherFor'. -/
def etherForCard : Claim7 := { stood := { row := etherForRow, standIns := [], harness := (true, "ee2a3598ccfd1d7040374d64d33bb45ce5888eb16d49dbc5e6c38385570d3e01"), looks := true }, kinds := [], alts := [], laidByText := true, laidKinds := [.handle], laidTests := true, laidLooks := .later }
def EtherForCardSaid : Prop := Claim7.holds Tryd.pinned (.plain (OpenSpec.ofChange etherForSpec)) etherForCard

/-- THE TIED CARD OF 'vizardlaw05.EtherCuts'. -/
def etherCutsCard : Claim7 := { stood := { row := etherCutsRow, standIns := [], harness := (true, "ee2a3598ccfd1d7040374d64d33bb45ce5888eb16d49dbc5e6c38385570d3e01"), looks := true }, kinds := [], alts := [], laidByText := true, laidKinds := [.handle], laidTests := true, laidLooks := .later }
def EtherCutsCardSaid : Prop := Claim7.holds Tryd.pinned (.plain (OpenSpec.ofChange etherCutsSpec)) etherCutsCard

/-- THE SECOND FORM's CARD OF 'vizardlaw18.PortsCalls'. -/
def portsCallsUptoCard : Claim7 := { stood := { row := portsCallsUptoRow, standIns := [], harness := (true, "ee2a3598ccfd1d7040374d64d33bb45ce5888eb16d49dbc5e6c38385570d3e01"), looks := true }, kinds := [], alts := [], laidByText := true, laidKinds := [.data], laidTests := true, laidLooks := .later }
def PortsCallsUptoCardSaid : Prop := Claim7.holds Tryd.pinned (.plain (OpenSpec.upto portsCallsSpec)) portsCallsUptoCard

/-- THE SECOND FORM's CARD OF 'vizardlaw18.PortsOnce'. -/
def portsOnceUptoCard : Claim7 := { stood := { row := portsOnceUptoRow, standIns := [], harness := (true, "ee2a3598ccfd1d7040374d64d33bb45ce5888eb16d49dbc5e6c38385570d3e01"), looks := true }, kinds := [], alts := [], laidByText := true, laidKinds := [.data], laidTests := true, laidLooks := .later }
def PortsOnceUptoCardSaid : Prop := Claim7.holds Tryd.pinned (.plain (OpenSpec.upto portsOnceSpec)) portsOnceUptoCard

/-- THE SECOND FORM's CARD OF 'vizardlaw18.PortsAll'. -/
def portsAllUptoCard : Claim7 := { stood := { row := portsAllUptoRow, standIns := [], harness := (true, "ee2a3598ccfd1d7040374d64d33bb45ce5888eb16d49dbc5e6c38385570d3e01"), looks := true }, kinds := [], alts := [], laidByText := true, laidKinds := [.data], laidTests := true, laidLooks := .later }
def PortsAllUptoCardSaid : Prop := Claim7.holds Tryd.pinned (.plain (OpenSpec.upto portsAllSpec)) portsAllUptoCard

/-- THE SECOND FORM's CARD OF 'vizardlaw18.PortsRound'. -/
def portsRoundUptoCard : Claim7 := { stood := { row := portsRoundUptoRow, standIns := [], harness := (true, "ee2a3598ccfd1d7040374d64d33bb45ce5888eb16d49dbc5e6c38385570d3e01"), looks := true }, kinds := [], alts := [], laidByText := true, laidKinds := [.data], laidTests := true, laidLooks := .later }
def PortsRoundUptoCardSaid : Prop := Claim7.holds Tryd.pinned (.plain (OpenSpec.upto portsRoundSpec)) portsRoundUptoCard

/-- THE SECOND FORM's CARD OF 'vizardlaw02.WhyChains'. -/
def whyChainsUptoCard : Claim7 := { stood := { row := whyChainsUptoRow, standIns := [], harness := (true, "ee2a3598ccfd1d7040374d64d33bb45ce5888eb16d49dbc5e6c38385570d3e01"), looks := true }, kinds := [], alts := [], laidByText := true, laidKinds := [.handle], laidTests := true, laidLooks := .later }
def WhyChainsUptoCardSaid : Prop := Claim7.holds Tryd.pinned (.plain (OpenSpec.upto whyChainsSpec)) whyChainsUptoCard

/-- THE SECOND FORM's CARD OF 'vizardlaw02.WhyWords'. -/
def whyWordsUptoCard : Claim7 := { stood := { row := whyWordsUptoRow, standIns := [], harness := (true, "ee2a3598ccfd1d7040374d64d33bb45ce5888eb16d49dbc5e6c38385570d3e01"), looks := true }, kinds := [], alts := [], laidByText := true, laidKinds := [.handle], laidTests := true, laidLooks := .later }
def WhyWordsUptoCardSaid : Prop := Claim7.holds Tryd.pinned (.plain (OpenSpec.upto whyWordsSpec)) whyWordsUptoCard

/-- THE SECOND FORM's CARD OF 'vizardlaw02.WhyDeep'. -/
def whyDeepUptoCard : Claim7 := { stood := { row := whyDeepUptoRow, standIns := [], harness := (true, "ee2a3598ccfd1d7040374d64d33bb45ce5888eb16d49dbc5e6c38385570d3e01"), looks := true }, kinds := [], alts := [], laidByText := true, laidKinds := [.handle], laidTests := true, laidLooks := .later }
def WhyDeepUptoCardSaid : Prop := Claim7.holds Tryd.pinned (.plain (OpenSpec.upto whyDeepSpec)) whyDeepUptoCard

/-- THE SECOND FORM's CARD OF 'vizardlaw02.WhyOnce'. -/
def whyOnceUptoCard : Claim7 := { stood := { row := whyOnceUptoRow, standIns := [], harness := (true, "ee2a3598ccfd1d7040374d64d33bb45ce5888eb16d49dbc5e6c38385570d3e01"), looks := true }, kinds := [], alts := [], laidByText := true, laidKinds := [.handle], laidTests := true, laidLooks := .later }
def WhyOnceUptoCardSaid : Prop := Claim7.holds Tryd.pinned (.plain (OpenSpec.upto whyOnceSpec)) whyOnceUptoCard

/-- THE SECOND FORM's CARD OF 'vizardlaw05.EtherParses'. -/
def etherParsesUptoCard : Claim7 := { stood := { row := etherParsesUptoRow, standIns := [], harness := (true, "ee2a3598ccfd1d7040374d64d33bb45ce5888eb16d49dbc5e6c38385570d3e01"), looks := true }, kinds := [], alts := [], laidByText := true, laidKinds := [.handle], laidTests := true, laidLooks := .later }
def EtherParsesUptoCardSaid : Prop := Claim7.holds Tryd.pinned (.plain (OpenSpec.upto etherParsesSpec)) etherParsesUptoCard

/-- THE SECOND FORM's CARD OF 'vizardlaw05.EtherWrites'. -/
def etherWritesUptoCard : Claim7 := { stood := { row := etherWritesUptoRow, standIns := [], harness := (true, "ee2a3598ccfd1d7040374d64d33bb45ce5888eb16d49dbc5e6c38385570d3e01"), looks := true }, kinds := [], alts := [], laidByText := true, laidKinds := [.handle], laidTests := true, laidLooks := .later }
def EtherWritesUptoCardSaid : Prop := Claim7.holds Tryd.pinned (.plain (OpenSpec.upto etherWritesSpec)) etherWritesUptoCard

/-- THE SECOND FORM's CARD OF 'vizardlaw05.EtherFor'. -/
def etherForUptoCard : Claim7 := { stood := { row := etherForUptoRow, standIns := [], harness := (true, "ee2a3598ccfd1d7040374d64d33bb45ce5888eb16d49dbc5e6c38385570d3e01"), looks := true }, kinds := [], alts := [], laidByText := true, laidKinds := [.handle], laidTests := true, laidLooks := .later }
def EtherForUptoCardSaid : Prop := Claim7.holds Tryd.pinned (.plain (OpenSpec.upto etherForSpec)) etherForUptoCard

/-- THE SECOND FORM's CARD OF 'vizardlaw05.EtherCuts'. -/
def etherCutsUptoCard : Claim7 := { stood := { row := etherCutsUptoRow, standIns := [], harness := (true, "ee2a3598ccfd1d7040374d64d33bb45ce5888eb16d49dbc5e6c38385570d3e01"), looks := true }, kinds := [], alts := [], laidByText := true, laidKinds := [.handle], laidTests := true, laidLooks := .later }
def EtherCutsUptoCardSaid : Prop := Claim7.holds Tryd.pinned (.plain (OpenSpec.upto etherCutsSpec)) etherCutsUptoCard
end Rows
end Go.Proofs.YtconpcnmccmbiaaDoor
