/-
  DERIVED. GIVEN WITH THE SEED: THE CARDS: each row of YtnpcbfllnkiopaaGreatDoorRows.lean that lists a variable, with what it lists TIED to the program's text (the seventh form; the later family's looks); each row that meets fmt, with fmt's text TOLD by the authors' own Lean function (tested against real Go, not proved from fmt's source: count such statements apart). THE CARD IS WHAT COUNTS. Prove the row's statement (the work); the ties are given (YtnpcbfllnkiopaaGreatDoorTie.lean); close each card by the builder's one call (the guide's Derived/Test/ToyasCard.lean, 'card_holds'). Laid BY PROGRAM, IN A SANDBOX (cutbox-door.mjs). By AI agents, Wed Nov 11 2026. No macro, syntax, notation, axiom, sorry.
-/
import Derived.Test.YtnpcbfllnkiopaaGreatDoorRows
import GoSem.ClaimSeven
namespace Go.Proofs.YtnpcbfllnkiopaaGreatDoor
namespace Rows

/-- THE TIED CARD OF 'rentlaw1.RateTexts'. -/
def rateTextsCard : Claim7 := { stood := { row := rateTextsRow, standIns := [], harness := (true, "dd5284aff089c10f3e571545dde01cc72b68474cb1efde1a91700921d059d94c"), looks := true }, kinds := [], alts := [], laidByText := true, laidKinds := [.data, .data, .data, .data, .sentinel, .sentinel, .pinned], laidTests := true, laidLooks := .later }
def RateTextsCardSaid : Prop := Claim7.holds Tryz.pinned (.plain (OpenSpec.ofChange rateTextsSpec)) rateTextsCard

/-- THE TIED CARD OF 'rentlaw1.HireTexts'. -/
def hireTextsCard : Claim7 := { stood := { row := hireTextsRow, standIns := [], harness := (true, "dd5284aff089c10f3e571545dde01cc72b68474cb1efde1a91700921d059d94c"), looks := true }, kinds := [], alts := [], laidByText := true, laidKinds := [.data, .data, .data, .data, .sentinel, .sentinel, .pinned], laidTests := true, laidLooks := .later }
def HireTextsCardSaid : Prop := Claim7.holds Tryz.pinned (.plain (OpenSpec.ofChange hireTextsSpec)) hireTextsCard

/-- THE TIED CARD OF 'rentlaw1.LogTexts'. -/
def logTextsCard : Claim7 := { stood := { row := logTextsRow, standIns := [], harness := (true, "dd5284aff089c10f3e571545dde01cc72b68474cb1efde1a91700921d059d94c"), looks := true }, kinds := [], alts := [], laidByText := true, laidKinds := [.data, .data, .data, .data, .sentinel, .sentinel, .pinned], laidTests := true, laidLooks := .later }
def LogTextsCardSaid : Prop := Claim7.holds Tryz.pinned (.plain (OpenSpec.ofChange logTextsSpec)) logTextsCard

/-- THE TIED CARD OF 'rentlaw1.FleetTexts'. -/
def fleetTextsCard : Claim7 := { stood := { row := fleetTextsRow, standIns := [], harness := (true, "dd5284aff089c10f3e571545dde01cc72b68474cb1efde1a91700921d059d94c"), looks := true }, kinds := [], alts := [], laidByText := true, laidKinds := [.data, .data, .data, .data, .sentinel, .sentinel, .pinned], laidTests := true, laidLooks := .later }
def FleetTextsCardSaid : Prop := Claim7.holds Tryz.pinned (.plain (OpenSpec.ofChange fleetTextsSpec)) fleetTextsCard

/-- THE TIED CARD OF 'rentlaw1.GivenChecks'. -/
def givenChecksCard : Claim7 := { stood := { row := givenChecksRow, standIns := [], harness := (true, "dd5284aff089c10f3e571545dde01cc72b68474cb1efde1a91700921d059d94c"), looks := true }, kinds := [], alts := [], laidByText := true, laidKinds := [.data, .pinned], laidTests := true, laidLooks := .later }
def GivenChecksCardSaid : Prop := Claim7.holds Tryz.pinned (.plain (OpenSpec.ofChange givenChecksSpec)) givenChecksCard

/-- THE SECOND FORM's CARD OF 'rentlaw1.RateTexts'. -/
def rateTextsUptoCard : Claim7 := { stood := { row := rateTextsUptoRow, standIns := [], harness := (true, "dd5284aff089c10f3e571545dde01cc72b68474cb1efde1a91700921d059d94c"), looks := true }, kinds := [], alts := [], laidByText := true, laidKinds := [.data, .data, .data, .data, .sentinel, .sentinel, .pinned], laidTests := true, laidLooks := .later }
def RateTextsUptoCardSaid : Prop := Claim7.holds Tryz.pinned (.plain (OpenSpec.upto rateTextsSpec)) rateTextsUptoCard

/-- THE SECOND FORM's CARD OF 'rentlaw1.HireTexts'. -/
def hireTextsUptoCard : Claim7 := { stood := { row := hireTextsUptoRow, standIns := [], harness := (true, "dd5284aff089c10f3e571545dde01cc72b68474cb1efde1a91700921d059d94c"), looks := true }, kinds := [], alts := [], laidByText := true, laidKinds := [.data, .data, .data, .data, .sentinel, .sentinel, .pinned], laidTests := true, laidLooks := .later }
def HireTextsUptoCardSaid : Prop := Claim7.holds Tryz.pinned (.plain (OpenSpec.upto hireTextsSpec)) hireTextsUptoCard

/-- THE SECOND FORM's CARD OF 'rentlaw1.LogTexts'. -/
def logTextsUptoCard : Claim7 := { stood := { row := logTextsUptoRow, standIns := [], harness := (true, "dd5284aff089c10f3e571545dde01cc72b68474cb1efde1a91700921d059d94c"), looks := true }, kinds := [], alts := [], laidByText := true, laidKinds := [.data, .data, .data, .data, .sentinel, .sentinel, .pinned], laidTests := true, laidLooks := .later }
def LogTextsUptoCardSaid : Prop := Claim7.holds Tryz.pinned (.plain (OpenSpec.upto logTextsSpec)) logTextsUptoCard

/-- THE SECOND FORM's CARD OF 'rentlaw1.FleetTexts'. -/
def fleetTextsUptoCard : Claim7 := { stood := { row := fleetTextsUptoRow, standIns := [], harness := (true, "dd5284aff089c10f3e571545dde01cc72b68474cb1efde1a91700921d059d94c"), looks := true }, kinds := [], alts := [], laidByText := true, laidKinds := [.data, .data, .data, .data, .sentinel, .sentinel, .pinned], laidTests := true, laidLooks := .later }
def FleetTextsUptoCardSaid : Prop := Claim7.holds Tryz.pinned (.plain (OpenSpec.upto fleetTextsSpec)) fleetTextsUptoCard

/-- THE SECOND FORM's CARD OF 'rentlaw1.GivenChecks'. -/
def givenChecksUptoCard : Claim7 := { stood := { row := givenChecksUptoRow, standIns := [], harness := (true, "dd5284aff089c10f3e571545dde01cc72b68474cb1efde1a91700921d059d94c"), looks := true }, kinds := [], alts := [], laidByText := true, laidKinds := [.data, .pinned], laidTests := true, laidLooks := .later }
def GivenChecksUptoCardSaid : Prop := Claim7.holds Tryz.pinned (.plain (OpenSpec.upto givenChecksSpec)) givenChecksUptoCard
end Rows
end Go.Proofs.YtnpcbfllnkiopaaGreatDoor
