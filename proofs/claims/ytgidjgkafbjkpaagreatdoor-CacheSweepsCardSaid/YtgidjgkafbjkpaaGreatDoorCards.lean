/-
  DERIVED. GIVEN WITH THE SEED: THE CARDS: each row of YtgidjgkafbjkpaaGreatDoorRows.lean that lists a variable, with what it lists TIED to the program's text (the seventh form; the later family's looks); each row that meets fmt, with fmt's text TOLD by the authors' own Lean function (tested against real Go, not proved from fmt's source: count such statements apart). THE CARD IS WHAT COUNTS. Prove the row's statement (the work); the ties are given (YtgidjgkafbjkpaaGreatDoorTie.lean); close each card by the builder's one call (the guide's Derived/Test/ToyasCard.lean, 'card_holds'). Laid BY PROGRAM, IN A SANDBOX (cutbox-door.mjs). By AI agents, Wed Nov 11 2026. No macro, syntax, notation, axiom, sorry.
-/
import Derived.Test.YtgidjgkafbjkpaaGreatDoorRows
import GoSem.ClaimSeven
namespace Go.Proofs.YtgidjgkafbjkpaaGreatDoor
namespace Rows

/-- THE TIED CARD OF 'vizardlaw14.CacheTokens'. -/
def cacheTokensCard : Claim7 := { stood := { row := cacheTokensRow, standIns := [], harness := (true, "1aeda49bbdb89d31a35365018a537cfb8945e9152dfbd31118a083afd919bb71"), looks := true }, kinds := [], alts := [], laidByText := true, laidKinds := [.data], laidTests := true, laidLooks := .later }
def CacheTokensCardSaid : Prop := Claim7.holds Tryz.pinned (.plain (OpenSpec.ofChange cacheTokensSpec)) cacheTokensCard

/-- THE TIED CARD OF 'vizardlaw14.CacheFinds'. -/
def cacheFindsCard : Claim7 := { stood := { row := cacheFindsRow, standIns := [], harness := (true, "1aeda49bbdb89d31a35365018a537cfb8945e9152dfbd31118a083afd919bb71"), looks := true }, kinds := [], alts := [], laidByText := true, laidKinds := [.data], laidTests := true, laidLooks := .later }
def CacheFindsCardSaid : Prop := Claim7.holds Tryz.pinned (.plain (OpenSpec.ofChange cacheFindsSpec)) cacheFindsCard

/-- THE TIED CARD OF 'vizardlaw14.CacheFirst'. -/
def cacheFirstCard : Claim7 := { stood := { row := cacheFirstRow, standIns := [], harness := (true, "1aeda49bbdb89d31a35365018a537cfb8945e9152dfbd31118a083afd919bb71"), looks := true }, kinds := [], alts := [], laidByText := true, laidKinds := [.data], laidTests := true, laidLooks := .later }
def CacheFirstCardSaid : Prop := Claim7.holds Tryz.pinned (.plain (OpenSpec.ofChange cacheFirstSpec)) cacheFirstCard

/-- THE TIED CARD OF 'vizardlaw14.CacheSweeps'. -/
def cacheSweepsCard : Claim7 := { stood := { row := cacheSweepsRow, standIns := [], harness := (true, "1aeda49bbdb89d31a35365018a537cfb8945e9152dfbd31118a083afd919bb71"), looks := true }, kinds := [], alts := [], laidByText := true, laidKinds := [.data], laidTests := true, laidLooks := .later }
def CacheSweepsCardSaid : Prop := Claim7.holds Tryz.pinned (.plain (OpenSpec.ofChange cacheSweepsSpec)) cacheSweepsCard

/-- THE SECOND FORM's CARD OF 'vizardlaw14.CacheTokens'. -/
def cacheTokensUptoCard : Claim7 := { stood := { row := cacheTokensUptoRow, standIns := [], harness := (true, "1aeda49bbdb89d31a35365018a537cfb8945e9152dfbd31118a083afd919bb71"), looks := true }, kinds := [], alts := [], laidByText := true, laidKinds := [.data], laidTests := true, laidLooks := .later }
def CacheTokensUptoCardSaid : Prop := Claim7.holds Tryz.pinned (.plain (OpenSpec.upto cacheTokensSpec)) cacheTokensUptoCard

/-- THE SECOND FORM's CARD OF 'vizardlaw14.CacheFinds'. -/
def cacheFindsUptoCard : Claim7 := { stood := { row := cacheFindsUptoRow, standIns := [], harness := (true, "1aeda49bbdb89d31a35365018a537cfb8945e9152dfbd31118a083afd919bb71"), looks := true }, kinds := [], alts := [], laidByText := true, laidKinds := [.data], laidTests := true, laidLooks := .later }
def CacheFindsUptoCardSaid : Prop := Claim7.holds Tryz.pinned (.plain (OpenSpec.upto cacheFindsSpec)) cacheFindsUptoCard

/-- THE SECOND FORM's CARD OF 'vizardlaw14.CacheFirst'. -/
def cacheFirstUptoCard : Claim7 := { stood := { row := cacheFirstUptoRow, standIns := [], harness := (true, "1aeda49bbdb89d31a35365018a537cfb8945e9152dfbd31118a083afd919bb71"), looks := true }, kinds := [], alts := [], laidByText := true, laidKinds := [.data], laidTests := true, laidLooks := .later }
def CacheFirstUptoCardSaid : Prop := Claim7.holds Tryz.pinned (.plain (OpenSpec.upto cacheFirstSpec)) cacheFirstUptoCard

/-- THE SECOND FORM's CARD OF 'vizardlaw14.CacheSweeps'. -/
def cacheSweepsUptoCard : Claim7 := { stood := { row := cacheSweepsUptoRow, standIns := [], harness := (true, "1aeda49bbdb89d31a35365018a537cfb8945e9152dfbd31118a083afd919bb71"), looks := true }, kinds := [], alts := [], laidByText := true, laidKinds := [.data], laidTests := true, laidLooks := .later }
def CacheSweepsUptoCardSaid : Prop := Claim7.holds Tryz.pinned (.plain (OpenSpec.upto cacheSweepsSpec)) cacheSweepsUptoCard
end Rows
end Go.Proofs.YtgidjgkafbjkpaaGreatDoor
