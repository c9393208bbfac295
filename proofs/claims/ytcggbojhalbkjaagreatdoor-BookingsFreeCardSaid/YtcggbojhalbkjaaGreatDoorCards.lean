/-
  DERIVED. GIVEN WITH THE SEED: THE CARDS: each row of YtcggbojhalbkjaaGreatDoorRows.lean that lists a variable, with what it lists TIED to the program's text (the seventh form; the later family's looks); each row that meets fmt, with fmt's text TOLD by the authors' own Lean function (tested against real Go, not proved from fmt's source: count such statements apart). THE CARD IS WHAT COUNTS. Prove the row's statement (the work); the ties are given (YtcggbojhalbkjaaGreatDoorTie.lean); close each card by the builder's one call (the guide's Derived/Test/ToyasCard.lean, 'card_holds'). Laid BY PROGRAM, IN A SANDBOX (cutbox-door.mjs). By AI agents, Wed Nov 11 2026. No macro, syntax, notation, axiom, sorry.
-/
import Derived.Test.YtcggbojhalbkjaaGreatDoorRows
import GoSem.ClaimSeven
namespace Go.Proofs.YtcggbojhalbkjaaGreatDoor
namespace Rows

/-- THE TIED CARD OF 'rentlaw1.QuotesTold'. -/
def quotesToldCard : Claim7 := { stood := { row := quotesToldRow, standIns := [], harness := (true, "185d55002de70b415eb9a2a8974bc6f1e057fd8deb1970849e647f042627a487"), looks := false }, kinds := [], alts := [], laidByText := true, laidKinds := [.data, .pinned], laidTests := true, laidLooks := .later }
def QuotesToldCardSaid : Prop := Claim7.holds Tryz.pinned (.plain (OpenSpec.ofChange quotesToldSpec)) quotesToldCard

/-- THE TIED CARD OF 'rentlaw1.BookingsFree'. -/
def bookingsFreeCard : Claim7 := { stood := { row := bookingsFreeRow, standIns := [], harness := (true, "185d55002de70b415eb9a2a8974bc6f1e057fd8deb1970849e647f042627a487"), looks := false }, kinds := [], alts := [], laidByText := true, laidKinds := [.data, .pinned], laidTests := true, laidLooks := .later }
def BookingsFreeCardSaid : Prop := Claim7.holds Tryz.pinned (.plain (OpenSpec.ofChange bookingsFreeSpec)) bookingsFreeCard

/-- THE TIED CARD OF 'rentlaw1.FleetPlates'. -/
def fleetPlatesCard : Claim7 := { stood := { row := fleetPlatesRow, standIns := [], harness := (true, "185d55002de70b415eb9a2a8974bc6f1e057fd8deb1970849e647f042627a487"), looks := false }, kinds := [], alts := [], laidByText := true, laidKinds := [.data, .pinned], laidTests := true, laidLooks := .later }
def FleetPlatesCardSaid : Prop := Claim7.holds Tryz.pinned (.plain (OpenSpec.ofChange fleetPlatesSpec)) fleetPlatesCard

/-- THE SECOND FORM's CARD OF 'rentlaw1.QuotesTold'. -/
def quotesToldUptoCard : Claim7 := { stood := { row := quotesToldUptoRow, standIns := [], harness := (true, "185d55002de70b415eb9a2a8974bc6f1e057fd8deb1970849e647f042627a487"), looks := false }, kinds := [], alts := [], laidByText := true, laidKinds := [.data, .pinned], laidTests := true, laidLooks := .later }
def QuotesToldUptoCardSaid : Prop := Claim7.holds Tryz.pinned (.plain (OpenSpec.upto quotesToldSpec)) quotesToldUptoCard

/-- THE SECOND FORM's CARD OF 'rentlaw1.BookingsFree'. -/
def bookingsFreeUptoCard : Claim7 := { stood := { row := bookingsFreeUptoRow, standIns := [], harness := (true, "185d55002de70b415eb9a2a8974bc6f1e057fd8deb1970849e647f042627a487"), looks := false }, kinds := [], alts := [], laidByText := true, laidKinds := [.data, .pinned], laidTests := true, laidLooks := .later }
def BookingsFreeUptoCardSaid : Prop := Claim7.holds Tryz.pinned (.plain (OpenSpec.upto bookingsFreeSpec)) bookingsFreeUptoCard

/-- THE SECOND FORM's CARD OF 'rentlaw1.FleetPlates'. -/
def fleetPlatesUptoCard : Claim7 := { stood := { row := fleetPlatesUptoRow, standIns := [], harness := (true, "185d55002de70b415eb9a2a8974bc6f1e057fd8deb1970849e647f042627a487"), looks := false }, kinds := [], alts := [], laidByText := true, laidKinds := [.data, .pinned], laidTests := true, laidLooks := .later }
def FleetPlatesUptoCardSaid : Prop := Claim7.holds Tryz.pinned (.plain (OpenSpec.upto fleetPlatesSpec)) fleetPlatesUptoCard
end Rows
end Go.Proofs.YtcggbojhalbkjaaGreatDoor
