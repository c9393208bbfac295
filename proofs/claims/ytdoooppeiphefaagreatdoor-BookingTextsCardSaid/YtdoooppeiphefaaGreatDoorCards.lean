/-
  DERIVED. GIVEN WITH THE SEED: THE CARDS: each row of YtdoooppeiphefaaGreatDoorRows.lean that lists a variable, with what it lists TIED to the program's text (the seventh form; the later family's looks); each row that meets fmt, with fmt's text TOLD by the authors' own Lean function (tested against real Go, not proved from fmt's source: count such statements apart). THE CARD IS WHAT COUNTS. Prove the row's statement (the work); the ties are given (YtdoooppeiphefaaGreatDoorTie.lean); close each card by the builder's one call (the guide's Derived/Test/ToyasCard.lean, 'card_holds'). Laid BY PROGRAM, IN A SANDBOX (cutbox-door.mjs). By AI agents, Wed Nov 11 2026. No macro, syntax, notation, axiom, sorry.
-/
import Derived.Test.YtdoooppeiphefaaGreatDoorRows
import GoSem.ClaimSeven
namespace Go.Proofs.YtdoooppeiphefaaGreatDoor
namespace Rows

/-- THE TIED CARD OF 'rentlaw1.LogTimes'. -/
def logTimesCard : Claim7 := { stood := { row := logTimesRow, standIns := [], harness := (true, "a820640a144e7c47be8b7d1608551f9f40d6a3a99d14f4ed057b54fe0f702286"), looks := true }, kinds := [], alts := [], laidByText := true, laidKinds := [.data, .pinned], laidTests := true, laidLooks := .later }
def LogTimesCardSaid : Prop := Claim7.holds Tryz.pinned (.plain (OpenSpec.ofChange logTimesSpec)) logTimesCard

/-- THE TIED CARD OF 'rentkeep1.TimesAdd'. -/
def timesAddCard : Claim7 := { stood := { row := timesAddRow, standIns := [], harness := (true, "a820640a144e7c47be8b7d1608551f9f40d6a3a99d14f4ed057b54fe0f702286"), looks := true }, kinds := [], alts := [], laidByText := true, laidKinds := [.data, .pinned], laidTests := true, laidLooks := .later }
def TimesAddCardSaid : Prop := Claim7.holds Tryz.pinned (.plain (OpenSpec.ofChange timesAddSpec)) timesAddCard

/-- THE TIED CARD OF 'rentkeep1.QuotesAdd'. -/
def quotesAddCard : Claim7 := { stood := { row := quotesAddRow, standIns := [], harness := (true, "a820640a144e7c47be8b7d1608551f9f40d6a3a99d14f4ed057b54fe0f702286"), looks := true }, kinds := [], alts := [], laidByText := true, laidKinds := [.data, .pinned], laidTests := true, laidLooks := .later }
def QuotesAddCardSaid : Prop := Claim7.holds Tryz.pinned (.plain (OpenSpec.ofChange quotesAddSpec)) quotesAddCard

/-- THE TIED CARD OF 'rentkeep1.StatesMerge'. -/
def statesMergeCard : Claim7 := { stood := { row := statesMergeRow, standIns := [], harness := (true, "a820640a144e7c47be8b7d1608551f9f40d6a3a99d14f4ed057b54fe0f702286"), looks := true }, kinds := [], alts := [], laidByText := true, laidKinds := [.data, .pinned], laidTests := true, laidLooks := .later }
def StatesMergeCardSaid : Prop := Claim7.holds Tryz.pinned (.plain (OpenSpec.ofChange statesMergeSpec)) statesMergeCard

/-- THE TIED CARD OF 'rentlaw1.GreedyGives'. -/
def greedyGivesCard : Claim7 := { stood := { row := greedyGivesRow, standIns := [], harness := (true, "a820640a144e7c47be8b7d1608551f9f40d6a3a99d14f4ed057b54fe0f702286"), looks := true }, kinds := [], alts := [], laidByText := true, laidKinds := [.data, .pinned], laidTests := true, laidLooks := .later }
def GreedyGivesCardSaid : Prop := Claim7.holds Tryz.pinned (.plain (OpenSpec.ofChange greedyGivesSpec)) greedyGivesCard

/-- THE TIED CARD OF 'rentlaw1.BookingTexts'. -/
def bookingTextsCard : Claim7 := { stood := { row := bookingTextsRow, standIns := [], harness := (true, "a820640a144e7c47be8b7d1608551f9f40d6a3a99d14f4ed057b54fe0f702286"), looks := true }, kinds := [], alts := [], laidByText := true, laidKinds := [.data, .data, .data, .data, .sentinel, .sentinel, .pinned], laidTests := true, laidLooks := .later }
def BookingTextsCardSaid : Prop := Claim7.holds Tryz.pinned (.plain (OpenSpec.ofChange bookingTextsSpec)) bookingTextsCard

/-- THE SECOND FORM's CARD OF 'rentlaw1.LogTimes'. -/
def logTimesUptoCard : Claim7 := { stood := { row := logTimesUptoRow, standIns := [], harness := (true, "a820640a144e7c47be8b7d1608551f9f40d6a3a99d14f4ed057b54fe0f702286"), looks := true }, kinds := [], alts := [], laidByText := true, laidKinds := [.data, .pinned], laidTests := true, laidLooks := .later }
def LogTimesUptoCardSaid : Prop := Claim7.holds Tryz.pinned (.plain (OpenSpec.upto logTimesSpec)) logTimesUptoCard

/-- THE SECOND FORM's CARD OF 'rentkeep1.TimesAdd'. -/
def timesAddUptoCard : Claim7 := { stood := { row := timesAddUptoRow, standIns := [], harness := (true, "a820640a144e7c47be8b7d1608551f9f40d6a3a99d14f4ed057b54fe0f702286"), looks := true }, kinds := [], alts := [], laidByText := true, laidKinds := [.data, .pinned], laidTests := true, laidLooks := .later }
def TimesAddUptoCardSaid : Prop := Claim7.holds Tryz.pinned (.plain (OpenSpec.upto timesAddSpec)) timesAddUptoCard

/-- THE SECOND FORM's CARD OF 'rentkeep1.QuotesAdd'. -/
def quotesAddUptoCard : Claim7 := { stood := { row := quotesAddUptoRow, standIns := [], harness := (true, "a820640a144e7c47be8b7d1608551f9f40d6a3a99d14f4ed057b54fe0f702286"), looks := true }, kinds := [], alts := [], laidByText := true, laidKinds := [.data, .pinned], laidTests := true, laidLooks := .later }
def QuotesAddUptoCardSaid : Prop := Claim7.holds Tryz.pinned (.plain (OpenSpec.upto quotesAddSpec)) quotesAddUptoCard

/-- THE SECOND FORM's CARD OF 'rentkeep1.StatesMerge'. -/
def statesMergeUptoCard : Claim7 := { stood := { row := statesMergeUptoRow, standIns := [], harness := (true, "a820640a144e7c47be8b7d1608551f9f40d6a3a99d14f4ed057b54fe0f702286"), looks := true }, kinds := [], alts := [], laidByText := true, laidKinds := [.data, .pinned], laidTests := true, laidLooks := .later }
def StatesMergeUptoCardSaid : Prop := Claim7.holds Tryz.pinned (.plain (OpenSpec.upto statesMergeSpec)) statesMergeUptoCard

/-- THE SECOND FORM's CARD OF 'rentlaw1.GreedyGives'. -/
def greedyGivesUptoCard : Claim7 := { stood := { row := greedyGivesUptoRow, standIns := [], harness := (true, "a820640a144e7c47be8b7d1608551f9f40d6a3a99d14f4ed057b54fe0f702286"), looks := true }, kinds := [], alts := [], laidByText := true, laidKinds := [.data, .pinned], laidTests := true, laidLooks := .later }
def GreedyGivesUptoCardSaid : Prop := Claim7.holds Tryz.pinned (.plain (OpenSpec.upto greedyGivesSpec)) greedyGivesUptoCard

/-- THE SECOND FORM's CARD OF 'rentlaw1.BookingTexts'. -/
def bookingTextsUptoCard : Claim7 := { stood := { row := bookingTextsUptoRow, standIns := [], harness := (true, "a820640a144e7c47be8b7d1608551f9f40d6a3a99d14f4ed057b54fe0f702286"), looks := true }, kinds := [], alts := [], laidByText := true, laidKinds := [.data, .data, .data, .data, .sentinel, .sentinel, .pinned], laidTests := true, laidLooks := .later }
def BookingTextsUptoCardSaid : Prop := Claim7.holds Tryz.pinned (.plain (OpenSpec.upto bookingTextsSpec)) bookingTextsUptoCard
end Rows
end Go.Proofs.YtdoooppeiphefaaGreatDoor
