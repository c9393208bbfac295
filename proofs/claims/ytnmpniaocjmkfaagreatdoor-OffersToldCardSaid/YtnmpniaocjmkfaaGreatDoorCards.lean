/-
  DERIVED. GIVEN WITH THE SEED: THE CARDS: each row of YtnmpniaocjmkfaaGreatDoorRows.lean that lists a variable, with what it lists TIED to the program's text (the seventh form; the later family's looks); each row that meets fmt, with fmt's text TOLD by the authors' own Lean function (tested against real Go, not proved from fmt's source: count such statements apart). THE CARD IS WHAT COUNTS. Prove the row's statement (the work); the ties are given (YtnmpniaocjmkfaaGreatDoorTie.lean); close each card by the builder's one call (the guide's Derived/Test/ToyasCard.lean, 'card_holds'). Laid BY PROGRAM, IN A SANDBOX (cutbox-door.mjs). By AI agents, Wed Nov 11 2026. No macro, syntax, notation, axiom, sorry.
-/
import Derived.Test.YtnmpniaocjmkfaaGreatDoorRows
import GoSem.ClaimSeven
namespace Go.Proofs.YtnmpniaocjmkfaaGreatDoor
namespace Rows

/-- THE TIED CARD OF 'rentlaw1.QuotesTold'. -/
def quotesToldCard : Claim7 := { stood := { row := quotesToldRow, standIns := [], harness := (true, "ac89d809cd8994f9f40949002008463324a48c9b499b4a46984c93d8eb8d283b"), looks := false }, kinds := [], alts := [], laidByText := true, laidKinds := [.data, .pinned], laidTests := true, laidLooks := .later }
def QuotesToldCardSaid : Prop := Claim7.holds Tryz.pinned (.plain (OpenSpec.ofChange quotesToldSpec)) quotesToldCard

/-- THE TIED CARD OF 'rentlaw1.FleetPlates'. -/
def fleetPlatesCard : Claim7 := { stood := { row := fleetPlatesRow, standIns := [], harness := (true, "ac89d809cd8994f9f40949002008463324a48c9b499b4a46984c93d8eb8d283b"), looks := false }, kinds := [], alts := [], laidByText := true, laidKinds := [.data, .pinned], laidTests := true, laidLooks := .later }
def FleetPlatesCardSaid : Prop := Claim7.holds Tryz.pinned (.plain (OpenSpec.ofChange fleetPlatesSpec)) fleetPlatesCard

/-- THE TIED CARD OF 'rentlaw1.LogTimes'. -/
def logTimesCard : Claim7 := { stood := { row := logTimesRow, standIns := [], harness := (true, "ac89d809cd8994f9f40949002008463324a48c9b499b4a46984c93d8eb8d283b"), looks := false }, kinds := [], alts := [], laidByText := true, laidKinds := [.data, .pinned], laidTests := true, laidLooks := .later }
def LogTimesCardSaid : Prop := Claim7.holds Tryz.pinned (.plain (OpenSpec.ofChange logTimesSpec)) logTimesCard

/-- THE TIED CARD OF 'rentlaw1.OffersTold'. -/
def offersToldCard : Claim7 := { stood := { row := offersToldRow, standIns := [], harness := (true, "ac89d809cd8994f9f40949002008463324a48c9b499b4a46984c93d8eb8d283b"), looks := false }, kinds := [], alts := [], laidByText := true, laidKinds := [.data, .pinned], laidTests := true, laidLooks := .later }
def OffersToldCardSaid : Prop := Claim7.holds Tryz.pinned (.plain (OpenSpec.ofChange offersToldSpec)) offersToldCard

/-- THE TIED CARD OF 'rentkeep1.TimesAdd'. -/
def timesAddCard : Claim7 := { stood := { row := timesAddRow, standIns := [], harness := (true, "ac89d809cd8994f9f40949002008463324a48c9b499b4a46984c93d8eb8d283b"), looks := false }, kinds := [], alts := [], laidByText := true, laidKinds := [.data, .pinned], laidTests := true, laidLooks := .later }
def TimesAddCardSaid : Prop := Claim7.holds Tryz.pinned (.plain (OpenSpec.ofChange timesAddSpec)) timesAddCard

/-- THE TIED CARD OF 'rentlaw1.LogReady'. -/
def logReadyCard : Claim7 := { stood := { row := logReadyRow, standIns := [], harness := (true, "ac89d809cd8994f9f40949002008463324a48c9b499b4a46984c93d8eb8d283b"), looks := false }, kinds := [], alts := [], laidByText := true, laidKinds := [.data, .pinned], laidTests := true, laidLooks := .later }
def LogReadyCardSaid : Prop := Claim7.holds Tryz.pinned (.plain (OpenSpec.ofChange logReadySpec)) logReadyCard

/-- THE TIED CARD OF 'rentlaw1.LogMerges'. -/
def logMergesCard : Claim7 := { stood := { row := logMergesRow, standIns := [], harness := (true, "ac89d809cd8994f9f40949002008463324a48c9b499b4a46984c93d8eb8d283b"), looks := false }, kinds := [], alts := [], laidByText := true, laidKinds := [.data, .pinned], laidTests := true, laidLooks := .later }
def LogMergesCardSaid : Prop := Claim7.holds Tryz.pinned (.plain (OpenSpec.ofChange logMergesSpec)) logMergesCard

/-- THE TIED CARD OF 'rentkeep1.StatesMerge'. -/
def statesMergeCard : Claim7 := { stood := { row := statesMergeRow, standIns := [], harness := (true, "ac89d809cd8994f9f40949002008463324a48c9b499b4a46984c93d8eb8d283b"), looks := false }, kinds := [], alts := [], laidByText := true, laidKinds := [.data, .pinned], laidTests := true, laidLooks := .later }
def StatesMergeCardSaid : Prop := Claim7.holds Tryz.pinned (.plain (OpenSpec.ofChange statesMergeSpec)) statesMergeCard

/-- THE TIED CARD OF 'rentkeep1.QuotesAdd'. -/
def quotesAddCard : Claim7 := { stood := { row := quotesAddRow, standIns := [], harness := (true, "ac89d809cd8994f9f40949002008463324a48c9b499b4a46984c93d8eb8d283b"), looks := false }, kinds := [], alts := [], laidByText := true, laidKinds := [.data, .pinned], laidTests := true, laidLooks := .later }
def QuotesAddCardSaid : Prop := Claim7.holds Tryz.pinned (.plain (OpenSpec.ofChange quotesAddSpec)) quotesAddCard

/-- THE TIED CARD OF 'rentlaw1.LogStates'. -/
def logStatesCard : Claim7 := { stood := { row := logStatesRow, standIns := [], harness := (true, "ac89d809cd8994f9f40949002008463324a48c9b499b4a46984c93d8eb8d283b"), looks := false }, kinds := [], alts := [], laidByText := true, laidKinds := [.data, .pinned], laidTests := true, laidLooks := .later }
def LogStatesCardSaid : Prop := Claim7.holds Tryz.pinned (.plain (OpenSpec.ofChange logStatesSpec)) logStatesCard

/-- THE SECOND FORM's CARD OF 'rentlaw1.QuotesTold'. -/
def quotesToldUptoCard : Claim7 := { stood := { row := quotesToldUptoRow, standIns := [], harness := (true, "ac89d809cd8994f9f40949002008463324a48c9b499b4a46984c93d8eb8d283b"), looks := false }, kinds := [], alts := [], laidByText := true, laidKinds := [.data, .pinned], laidTests := true, laidLooks := .later }
def QuotesToldUptoCardSaid : Prop := Claim7.holds Tryz.pinned (.plain (OpenSpec.upto quotesToldSpec)) quotesToldUptoCard

/-- THE SECOND FORM's CARD OF 'rentlaw1.FleetPlates'. -/
def fleetPlatesUptoCard : Claim7 := { stood := { row := fleetPlatesUptoRow, standIns := [], harness := (true, "ac89d809cd8994f9f40949002008463324a48c9b499b4a46984c93d8eb8d283b"), looks := false }, kinds := [], alts := [], laidByText := true, laidKinds := [.data, .pinned], laidTests := true, laidLooks := .later }
def FleetPlatesUptoCardSaid : Prop := Claim7.holds Tryz.pinned (.plain (OpenSpec.upto fleetPlatesSpec)) fleetPlatesUptoCard

/-- THE SECOND FORM's CARD OF 'rentlaw1.LogTimes'. -/
def logTimesUptoCard : Claim7 := { stood := { row := logTimesUptoRow, standIns := [], harness := (true, "ac89d809cd8994f9f40949002008463324a48c9b499b4a46984c93d8eb8d283b"), looks := false }, kinds := [], alts := [], laidByText := true, laidKinds := [.data, .pinned], laidTests := true, laidLooks := .later }
def LogTimesUptoCardSaid : Prop := Claim7.holds Tryz.pinned (.plain (OpenSpec.upto logTimesSpec)) logTimesUptoCard

/-- THE SECOND FORM's CARD OF 'rentlaw1.OffersTold'. -/
def offersToldUptoCard : Claim7 := { stood := { row := offersToldUptoRow, standIns := [], harness := (true, "ac89d809cd8994f9f40949002008463324a48c9b499b4a46984c93d8eb8d283b"), looks := false }, kinds := [], alts := [], laidByText := true, laidKinds := [.data, .pinned], laidTests := true, laidLooks := .later }
def OffersToldUptoCardSaid : Prop := Claim7.holds Tryz.pinned (.plain (OpenSpec.upto offersToldSpec)) offersToldUptoCard

/-- THE SECOND FORM's CARD OF 'rentkeep1.TimesAdd'. -/
def timesAddUptoCard : Claim7 := { stood := { row := timesAddUptoRow, standIns := [], harness := (true, "ac89d809cd8994f9f40949002008463324a48c9b499b4a46984c93d8eb8d283b"), looks := false }, kinds := [], alts := [], laidByText := true, laidKinds := [.data, .pinned], laidTests := true, laidLooks := .later }
def TimesAddUptoCardSaid : Prop := Claim7.holds Tryz.pinned (.plain (OpenSpec.upto timesAddSpec)) timesAddUptoCard

/-- THE SECOND FORM's CARD OF 'rentlaw1.LogReady'. -/
def logReadyUptoCard : Claim7 := { stood := { row := logReadyUptoRow, standIns := [], harness := (true, "ac89d809cd8994f9f40949002008463324a48c9b499b4a46984c93d8eb8d283b"), looks := false }, kinds := [], alts := [], laidByText := true, laidKinds := [.data, .pinned], laidTests := true, laidLooks := .later }
def LogReadyUptoCardSaid : Prop := Claim7.holds Tryz.pinned (.plain (OpenSpec.upto logReadySpec)) logReadyUptoCard

/-- THE SECOND FORM's CARD OF 'rentlaw1.LogMerges'. -/
def logMergesUptoCard : Claim7 := { stood := { row := logMergesUptoRow, standIns := [], harness := (true, "ac89d809cd8994f9f40949002008463324a48c9b499b4a46984c93d8eb8d283b"), looks := false }, kinds := [], alts := [], laidByText := true, laidKinds := [.data, .pinned], laidTests := true, laidLooks := .later }
def LogMergesUptoCardSaid : Prop := Claim7.holds Tryz.pinned (.plain (OpenSpec.upto logMergesSpec)) logMergesUptoCard

/-- THE SECOND FORM's CARD OF 'rentkeep1.StatesMerge'. -/
def statesMergeUptoCard : Claim7 := { stood := { row := statesMergeUptoRow, standIns := [], harness := (true, "ac89d809cd8994f9f40949002008463324a48c9b499b4a46984c93d8eb8d283b"), looks := false }, kinds := [], alts := [], laidByText := true, laidKinds := [.data, .pinned], laidTests := true, laidLooks := .later }
def StatesMergeUptoCardSaid : Prop := Claim7.holds Tryz.pinned (.plain (OpenSpec.upto statesMergeSpec)) statesMergeUptoCard

/-- THE SECOND FORM's CARD OF 'rentkeep1.QuotesAdd'. -/
def quotesAddUptoCard : Claim7 := { stood := { row := quotesAddUptoRow, standIns := [], harness := (true, "ac89d809cd8994f9f40949002008463324a48c9b499b4a46984c93d8eb8d283b"), looks := false }, kinds := [], alts := [], laidByText := true, laidKinds := [.data, .pinned], laidTests := true, laidLooks := .later }
def QuotesAddUptoCardSaid : Prop := Claim7.holds Tryz.pinned (.plain (OpenSpec.upto quotesAddSpec)) quotesAddUptoCard

/-- THE SECOND FORM's CARD OF 'rentlaw1.LogStates'. -/
def logStatesUptoCard : Claim7 := { stood := { row := logStatesUptoRow, standIns := [], harness := (true, "ac89d809cd8994f9f40949002008463324a48c9b499b4a46984c93d8eb8d283b"), looks := false }, kinds := [], alts := [], laidByText := true, laidKinds := [.data, .pinned], laidTests := true, laidLooks := .later }
def LogStatesUptoCardSaid : Prop := Claim7.holds Tryz.pinned (.plain (OpenSpec.upto logStatesSpec)) logStatesUptoCard
end Rows
end Go.Proofs.YtnmpniaocjmkfaaGreatDoor
