/-
  DERIVED. GIVEN WITH THE SEED: THE CARDS: each row of YtempjmpfdniecaaGreatDoorRows.lean that lists a variable, with what it lists TIED to the program's text (the seventh form; the later family's looks); each row that meets fmt, with fmt's text TOLD by the authors' own Lean function (tested against real Go, not proved from fmt's source: count such statements apart). THE CARD IS WHAT COUNTS. Prove the row's statement (the work); the ties are given (YtempjmpfdniecaaGreatDoorTie.lean); close each card by the builder's one call (the guide's Derived/Test/ToyasCard.lean, 'card_holds'). Laid BY PROGRAM, IN A SANDBOX (cutbox-door.mjs). By AI agents, Wed Nov 11 2026. No macro, syntax, notation, axiom, sorry.
-/
import Derived.Test.YtempjmpfdniecaaGreatDoorRows
import GoSem.ClaimSeven
namespace Go.Proofs.YtempjmpfdniecaaGreatDoor
namespace Rows

/-- THE TIED CARD OF 'rentkeep1.HiresKeep'. -/
def hiresKeepCard : Claim7 := { stood := { row := hiresKeepRow, standIns := [], harness := (true, "1ed9f596e87135b745c91091163b91ef7b31a67fbebe7476b238a29c168130e3"), looks := true }, kinds := [], alts := [], laidByText := true, laidKinds := [.data, .data, .data, .data, .sentinel, .sentinel, .pinned], laidTests := true, laidLooks := .later }
def HiresKeepCardSaid : Prop := Claim7.holds Tryz.pinned (.plain (OpenSpec.ofChange hiresKeepSpec)) hiresKeepCard

/-- THE TIED CARD OF 'rentkeep1.FleetsComeBack'. -/
def fleetsComeBackCard : Claim7 := { stood := { row := fleetsComeBackRow, standIns := [], harness := (true, "1ed9f596e87135b745c91091163b91ef7b31a67fbebe7476b238a29c168130e3"), looks := true }, kinds := [], alts := [], laidByText := true, laidKinds := [.data, .data, .data, .data, .sentinel, .sentinel, .pinned], laidTests := true, laidLooks := .later }
def FleetsComeBackCardSaid : Prop := Claim7.holds Tryz.pinned (.plain (OpenSpec.ofChange fleetsComeBackSpec)) fleetsComeBackCard

/-- THE TIED CARD OF 'rentlaw1.AssignsLeast'. -/
def assignsLeastCard : Claim7 := { stood := { row := assignsLeastRow, standIns := [], harness := (true, "1ed9f596e87135b745c91091163b91ef7b31a67fbebe7476b238a29c168130e3"), looks := true }, kinds := [], alts := [], laidByText := true, laidKinds := [.data, .pinned], laidTests := true, laidLooks := .later }
def AssignsLeastCardSaid : Prop := Claim7.holds Tryz.pinned (.plain (OpenSpec.ofChange assignsLeastSpec)) assignsLeastCard

/-- THE TIED CARD OF 'rentlaw1.CanAdd'. -/
def canAddCard : Claim7 := { stood := { row := canAddRow, standIns := [], harness := (true, "1ed9f596e87135b745c91091163b91ef7b31a67fbebe7476b238a29c168130e3"), looks := true }, kinds := [], alts := [], laidByText := true, laidKinds := [.data, .pinned], laidTests := true, laidLooks := .later }
def CanAddCardSaid : Prop := Claim7.holds Tryz.pinned (.plain (OpenSpec.ofChange canAddSpec)) canAddCard

/-- THE TIED CARD OF 'rentlaw1.WaitersMove'. -/
def waitersMoveCard : Claim7 := { stood := { row := waitersMoveRow, standIns := [], harness := (true, "1ed9f596e87135b745c91091163b91ef7b31a67fbebe7476b238a29c168130e3"), looks := true }, kinds := [], alts := [], laidByText := true, laidKinds := [.data, .pinned], laidTests := true, laidLooks := .later }
def WaitersMoveCardSaid : Prop := Claim7.holds Tryz.pinned (.plain (OpenSpec.ofChange waitersMoveSpec)) waitersMoveCard

/-- THE TIED CARD OF 'rentkeep1.WaitersCan'. -/
def waitersCanCard : Claim7 := { stood := { row := waitersCanRow, standIns := [], harness := (true, "1ed9f596e87135b745c91091163b91ef7b31a67fbebe7476b238a29c168130e3"), looks := true }, kinds := [], alts := [], laidByText := true, laidKinds := [.data, .pinned], laidTests := true, laidLooks := .later }
def WaitersCanCardSaid : Prop := Claim7.holds Tryz.pinned (.plain (OpenSpec.ofChange waitersCanSpec)) waitersCanCard

/-- THE TIED CARD OF 'rentkeep1.GreedyIsNotBetter'. -/
def greedyIsNotBetterCard : Claim7 := { stood := { row := greedyIsNotBetterRow, standIns := [], harness := (true, "1ed9f596e87135b745c91091163b91ef7b31a67fbebe7476b238a29c168130e3"), looks := true }, kinds := [], alts := [], laidByText := true, laidKinds := [.data, .pinned], laidTests := true, laidLooks := .later }
def GreedyIsNotBetterCardSaid : Prop := Claim7.holds Tryz.pinned (.plain (OpenSpec.ofChange greedyIsNotBetterSpec)) greedyIsNotBetterCard

/-- THE SECOND FORM's CARD OF 'rentkeep1.HiresKeep'. -/
def hiresKeepUptoCard : Claim7 := { stood := { row := hiresKeepUptoRow, standIns := [], harness := (true, "1ed9f596e87135b745c91091163b91ef7b31a67fbebe7476b238a29c168130e3"), looks := true }, kinds := [], alts := [], laidByText := true, laidKinds := [.data, .data, .data, .data, .sentinel, .sentinel, .pinned], laidTests := true, laidLooks := .later }
def HiresKeepUptoCardSaid : Prop := Claim7.holds Tryz.pinned (.plain (OpenSpec.upto hiresKeepSpec)) hiresKeepUptoCard

/-- THE SECOND FORM's CARD OF 'rentkeep1.FleetsComeBack'. -/
def fleetsComeBackUptoCard : Claim7 := { stood := { row := fleetsComeBackUptoRow, standIns := [], harness := (true, "1ed9f596e87135b745c91091163b91ef7b31a67fbebe7476b238a29c168130e3"), looks := true }, kinds := [], alts := [], laidByText := true, laidKinds := [.data, .data, .data, .data, .sentinel, .sentinel, .pinned], laidTests := true, laidLooks := .later }
def FleetsComeBackUptoCardSaid : Prop := Claim7.holds Tryz.pinned (.plain (OpenSpec.upto fleetsComeBackSpec)) fleetsComeBackUptoCard

/-- THE SECOND FORM's CARD OF 'rentlaw1.AssignsLeast'. -/
def assignsLeastUptoCard : Claim7 := { stood := { row := assignsLeastUptoRow, standIns := [], harness := (true, "1ed9f596e87135b745c91091163b91ef7b31a67fbebe7476b238a29c168130e3"), looks := true }, kinds := [], alts := [], laidByText := true, laidKinds := [.data, .pinned], laidTests := true, laidLooks := .later }
def AssignsLeastUptoCardSaid : Prop := Claim7.holds Tryz.pinned (.plain (OpenSpec.upto assignsLeastSpec)) assignsLeastUptoCard

/-- THE SECOND FORM's CARD OF 'rentlaw1.CanAdd'. -/
def canAddUptoCard : Claim7 := { stood := { row := canAddUptoRow, standIns := [], harness := (true, "1ed9f596e87135b745c91091163b91ef7b31a67fbebe7476b238a29c168130e3"), looks := true }, kinds := [], alts := [], laidByText := true, laidKinds := [.data, .pinned], laidTests := true, laidLooks := .later }
def CanAddUptoCardSaid : Prop := Claim7.holds Tryz.pinned (.plain (OpenSpec.upto canAddSpec)) canAddUptoCard

/-- THE SECOND FORM's CARD OF 'rentlaw1.WaitersMove'. -/
def waitersMoveUptoCard : Claim7 := { stood := { row := waitersMoveUptoRow, standIns := [], harness := (true, "1ed9f596e87135b745c91091163b91ef7b31a67fbebe7476b238a29c168130e3"), looks := true }, kinds := [], alts := [], laidByText := true, laidKinds := [.data, .pinned], laidTests := true, laidLooks := .later }
def WaitersMoveUptoCardSaid : Prop := Claim7.holds Tryz.pinned (.plain (OpenSpec.upto waitersMoveSpec)) waitersMoveUptoCard

/-- THE SECOND FORM's CARD OF 'rentkeep1.WaitersCan'. -/
def waitersCanUptoCard : Claim7 := { stood := { row := waitersCanUptoRow, standIns := [], harness := (true, "1ed9f596e87135b745c91091163b91ef7b31a67fbebe7476b238a29c168130e3"), looks := true }, kinds := [], alts := [], laidByText := true, laidKinds := [.data, .pinned], laidTests := true, laidLooks := .later }
def WaitersCanUptoCardSaid : Prop := Claim7.holds Tryz.pinned (.plain (OpenSpec.upto waitersCanSpec)) waitersCanUptoCard

/-- THE SECOND FORM's CARD OF 'rentkeep1.GreedyIsNotBetter'. -/
def greedyIsNotBetterUptoCard : Claim7 := { stood := { row := greedyIsNotBetterUptoRow, standIns := [], harness := (true, "1ed9f596e87135b745c91091163b91ef7b31a67fbebe7476b238a29c168130e3"), looks := true }, kinds := [], alts := [], laidByText := true, laidKinds := [.data, .pinned], laidTests := true, laidLooks := .later }
def GreedyIsNotBetterUptoCardSaid : Prop := Claim7.holds Tryz.pinned (.plain (OpenSpec.upto greedyIsNotBetterSpec)) greedyIsNotBetterUptoCard
end Rows
end Go.Proofs.YtempjmpfdniecaaGreatDoor
