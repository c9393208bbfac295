/-
  DERIVED. GIVEN WITH THE SEED: THE CARDS: each row of YtjecbkgjabnmoaaGreatDoorRows.lean that lists a variable, with what it lists TIED to the program's text (the seventh form; the later family's looks); each row that meets fmt, with fmt's text TOLD by the authors' own Lean function (tested against real Go, not proved from fmt's source: count such statements apart). THE CARD IS WHAT COUNTS. Prove the row's statement (the work); the ties are given (YtjecbkgjabnmoaaGreatDoorTie.lean); close each card by the builder's one call (the guide's Derived/Test/ToyasCard.lean, 'card_holds'). Laid BY PROGRAM, IN A SANDBOX (cutbox-door.mjs). By AI agents, Wed Nov 11 2026. No macro, syntax, notation, axiom, sorry.
-/
import Derived.Test.YtjecbkgjabnmoaaGreatDoorRows
import GoSem.ClaimSeven
namespace Go.Proofs.YtjecbkgjabnmoaaGreatDoor
namespace Rows

/-- THE TIED CARD OF 'rentlaw1.FleetPlates'. -/
def fleetPlatesCard : Claim7 := { stood := { row := fleetPlatesRow, standIns := [], harness := (true, "b587cc5cc9c07af8f5c2d3bf9babe2f1d630a0a795b8bd57bdd9f0721666b361"), looks := false }, kinds := [], alts := [], laidByText := true, laidKinds := [.data, .pinned], laidTests := true, laidLooks := .later }
def FleetPlatesCardSaid : Prop := Claim7.holds Tryz.pinned (.plain (OpenSpec.ofChange fleetPlatesSpec)) fleetPlatesCard

/-- THE TIED CARD OF 'rentlaw1.LogTimes'. -/
def logTimesCard : Claim7 := { stood := { row := logTimesRow, standIns := [], harness := (true, "b587cc5cc9c07af8f5c2d3bf9babe2f1d630a0a795b8bd57bdd9f0721666b361"), looks := false }, kinds := [], alts := [], laidByText := true, laidKinds := [.data, .pinned], laidTests := true, laidLooks := .later }
def LogTimesCardSaid : Prop := Claim7.holds Tryz.pinned (.plain (OpenSpec.ofChange logTimesSpec)) logTimesCard

/-- THE TIED CARD OF 'rentkeep1.TimesAdd'. -/
def timesAddCard : Claim7 := { stood := { row := timesAddRow, standIns := [], harness := (true, "b587cc5cc9c07af8f5c2d3bf9babe2f1d630a0a795b8bd57bdd9f0721666b361"), looks := false }, kinds := [], alts := [], laidByText := true, laidKinds := [.data, .pinned], laidTests := true, laidLooks := .later }
def TimesAddCardSaid : Prop := Claim7.holds Tryz.pinned (.plain (OpenSpec.ofChange timesAddSpec)) timesAddCard

/-- THE TIED CARD OF 'rentlaw1.LogReady'. -/
def logReadyCard : Claim7 := { stood := { row := logReadyRow, standIns := [], harness := (true, "b587cc5cc9c07af8f5c2d3bf9babe2f1d630a0a795b8bd57bdd9f0721666b361"), looks := false }, kinds := [], alts := [], laidByText := true, laidKinds := [.data, .pinned], laidTests := true, laidLooks := .later }
def LogReadyCardSaid : Prop := Claim7.holds Tryz.pinned (.plain (OpenSpec.ofChange logReadySpec)) logReadyCard

/-- THE TIED CARD OF 'rentlaw1.LogMerges'. -/
def logMergesCard : Claim7 := { stood := { row := logMergesRow, standIns := [], harness := (true, "b587cc5cc9c07af8f5c2d3bf9babe2f1d630a0a795b8bd57bdd9f0721666b361"), looks := false }, kinds := [], alts := [], laidByText := true, laidKinds := [.data, .pinned], laidTests := true, laidLooks := .later }
def LogMergesCardSaid : Prop := Claim7.holds Tryz.pinned (.plain (OpenSpec.ofChange logMergesSpec)) logMergesCard

/-- THE TIED CARD OF 'rentkeep1.StatesMerge'. -/
def statesMergeCard : Claim7 := { stood := { row := statesMergeRow, standIns := [], harness := (true, "b587cc5cc9c07af8f5c2d3bf9babe2f1d630a0a795b8bd57bdd9f0721666b361"), looks := false }, kinds := [], alts := [], laidByText := true, laidKinds := [.data, .pinned], laidTests := true, laidLooks := .later }
def StatesMergeCardSaid : Prop := Claim7.holds Tryz.pinned (.plain (OpenSpec.ofChange statesMergeSpec)) statesMergeCard

/-- THE TIED CARD OF 'rentkeep1.QuotesAdd'. -/
def quotesAddCard : Claim7 := { stood := { row := quotesAddRow, standIns := [], harness := (true, "b587cc5cc9c07af8f5c2d3bf9babe2f1d630a0a795b8bd57bdd9f0721666b361"), looks := false }, kinds := [], alts := [], laidByText := true, laidKinds := [.data, .pinned], laidTests := true, laidLooks := .later }
def QuotesAddCardSaid : Prop := Claim7.holds Tryz.pinned (.plain (OpenSpec.ofChange quotesAddSpec)) quotesAddCard

/-- THE TIED CARD OF 'rentlaw1.LogStates'. -/
def logStatesCard : Claim7 := { stood := { row := logStatesRow, standIns := [], harness := (true, "b587cc5cc9c07af8f5c2d3bf9babe2f1d630a0a795b8bd57bdd9f0721666b361"), looks := false }, kinds := [], alts := [], laidByText := true, laidKinds := [.data, .pinned], laidTests := true, laidLooks := .later }
def LogStatesCardSaid : Prop := Claim7.holds Tryz.pinned (.plain (OpenSpec.ofChange logStatesSpec)) logStatesCard

/-- THE SECOND FORM's CARD OF 'rentlaw1.FleetPlates'. -/
def fleetPlatesUptoCard : Claim7 := { stood := { row := fleetPlatesUptoRow, standIns := [], harness := (true, "b587cc5cc9c07af8f5c2d3bf9babe2f1d630a0a795b8bd57bdd9f0721666b361"), looks := false }, kinds := [], alts := [], laidByText := true, laidKinds := [.data, .pinned], laidTests := true, laidLooks := .later }
def FleetPlatesUptoCardSaid : Prop := Claim7.holds Tryz.pinned (.plain (OpenSpec.upto fleetPlatesSpec)) fleetPlatesUptoCard

/-- THE SECOND FORM's CARD OF 'rentlaw1.LogTimes'. -/
def logTimesUptoCard : Claim7 := { stood := { row := logTimesUptoRow, standIns := [], harness := (true, "b587cc5cc9c07af8f5c2d3bf9babe2f1d630a0a795b8bd57bdd9f0721666b361"), looks := false }, kinds := [], alts := [], laidByText := true, laidKinds := [.data, .pinned], laidTests := true, laidLooks := .later }
def LogTimesUptoCardSaid : Prop := Claim7.holds Tryz.pinned (.plain (OpenSpec.upto logTimesSpec)) logTimesUptoCard

/-- THE SECOND FORM's CARD OF 'rentkeep1.TimesAdd'. -/
def timesAddUptoCard : Claim7 := { stood := { row := timesAddUptoRow, standIns := [], harness := (true, "b587cc5cc9c07af8f5c2d3bf9babe2f1d630a0a795b8bd57bdd9f0721666b361"), looks := false }, kinds := [], alts := [], laidByText := true, laidKinds := [.data, .pinned], laidTests := true, laidLooks := .later }
def TimesAddUptoCardSaid : Prop := Claim7.holds Tryz.pinned (.plain (OpenSpec.upto timesAddSpec)) timesAddUptoCard

/-- THE SECOND FORM's CARD OF 'rentlaw1.LogReady'. -/
def logReadyUptoCard : Claim7 := { stood := { row := logReadyUptoRow, standIns := [], harness := (true, "b587cc5cc9c07af8f5c2d3bf9babe2f1d630a0a795b8bd57bdd9f0721666b361"), looks := false }, kinds := [], alts := [], laidByText := true, laidKinds := [.data, .pinned], laidTests := true, laidLooks := .later }
def LogReadyUptoCardSaid : Prop := Claim7.holds Tryz.pinned (.plain (OpenSpec.upto logReadySpec)) logReadyUptoCard

/-- THE SECOND FORM's CARD OF 'rentlaw1.LogMerges'. -/
def logMergesUptoCard : Claim7 := { stood := { row := logMergesUptoRow, standIns := [], harness := (true, "b587cc5cc9c07af8f5c2d3bf9babe2f1d630a0a795b8bd57bdd9f0721666b361"), looks := false }, kinds := [], alts := [], laidByText := true, laidKinds := [.data, .pinned], laidTests := true, laidLooks := .later }
def LogMergesUptoCardSaid : Prop := Claim7.holds Tryz.pinned (.plain (OpenSpec.upto logMergesSpec)) logMergesUptoCard

/-- THE SECOND FORM's CARD OF 'rentkeep1.StatesMerge'. -/
def statesMergeUptoCard : Claim7 := { stood := { row := statesMergeUptoRow, standIns := [], harness := (true, "b587cc5cc9c07af8f5c2d3bf9babe2f1d630a0a795b8bd57bdd9f0721666b361"), looks := false }, kinds := [], alts := [], laidByText := true, laidKinds := [.data, .pinned], laidTests := true, laidLooks := .later }
def StatesMergeUptoCardSaid : Prop := Claim7.holds Tryz.pinned (.plain (OpenSpec.upto statesMergeSpec)) statesMergeUptoCard

/-- THE SECOND FORM's CARD OF 'rentkeep1.QuotesAdd'. -/
def quotesAddUptoCard : Claim7 := { stood := { row := quotesAddUptoRow, standIns := [], harness := (true, "b587cc5cc9c07af8f5c2d3bf9babe2f1d630a0a795b8bd57bdd9f0721666b361"), looks := false }, kinds := [], alts := [], laidByText := true, laidKinds := [.data, .pinned], laidTests := true, laidLooks := .later }
def QuotesAddUptoCardSaid : Prop := Claim7.holds Tryz.pinned (.plain (OpenSpec.upto quotesAddSpec)) quotesAddUptoCard

/-- THE SECOND FORM's CARD OF 'rentlaw1.LogStates'. -/
def logStatesUptoCard : Claim7 := { stood := { row := logStatesUptoRow, standIns := [], harness := (true, "b587cc5cc9c07af8f5c2d3bf9babe2f1d630a0a795b8bd57bdd9f0721666b361"), looks := false }, kinds := [], alts := [], laidByText := true, laidKinds := [.data, .pinned], laidTests := true, laidLooks := .later }
def LogStatesUptoCardSaid : Prop := Claim7.holds Tryz.pinned (.plain (OpenSpec.upto logStatesSpec)) logStatesUptoCard
end Rows
end Go.Proofs.YtjecbkgjabnmoaaGreatDoor
