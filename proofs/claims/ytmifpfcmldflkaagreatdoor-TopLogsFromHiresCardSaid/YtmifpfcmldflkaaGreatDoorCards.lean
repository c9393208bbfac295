/-
  DERIVED. GIVEN WITH THE SEED: THE CARDS: each row of YtmifpfcmldflkaaGreatDoorRows.lean that lists a variable, with what it lists TIED to the program's text (the seventh form; the later family's looks); each row that meets fmt, with fmt's text TOLD by the authors' own Lean function (tested against real Go, not proved from fmt's source: count such statements apart). THE CARD IS WHAT COUNTS. Prove the row's statement (the work); the ties are given (YtmifpfcmldflkaaGreatDoorTie.lean); close each card by the builder's one call (the guide's Derived/Test/ToyasCard.lean, 'card_holds'). Laid BY PROGRAM, IN A SANDBOX (cutbox-door.mjs). By AI agents, Wed Nov 11 2026. No macro, syntax, notation, axiom, sorry.
-/
import Derived.Test.YtmifpfcmldflkaaGreatDoorRows
import GoSem.ClaimSeven
namespace Go.Proofs.YtmifpfcmldflkaaGreatDoor
namespace Rows

/-- THE TIED CARD OF 'renttop.TopHiredTimes'. -/
def topHiredTimesCard : Claim7 := { stood := { row := topHiredTimesRow, standIns := [], harness := (true, "3814be9db92ee63072e7f0e8d87176be828c4351eecbf85ec19edee5697e3e42"), looks := true }, kinds := [], alts := [], laidByText := true, laidKinds := [.data, .data, .data, .data, .sentinel, .sentinel, .pinned], laidTests := true, laidLooks := .later }
def TopHiredTimesCardSaid : Prop := Claim7.holds Tryz.pinned (.plain (OpenSpec.ofChange topHiredTimesSpec)) topHiredTimesCard

/-- THE TIED CARD OF 'renttop.TopLogsFromHires'. -/
def topLogsFromHiresCard : Claim7 := { stood := { row := topLogsFromHiresRow, standIns := [], harness := (true, "3814be9db92ee63072e7f0e8d87176be828c4351eecbf85ec19edee5697e3e42"), looks := true }, kinds := [], alts := [], laidByText := true, laidKinds := [.data, .data, .data, .data, .sentinel, .sentinel, .pinned], laidTests := true, laidLooks := .later }
def TopLogsFromHiresCardSaid : Prop := Claim7.holds Tryz.pinned (.plain (OpenSpec.ofChange topLogsFromHiresSpec)) topLogsFromHiresCard

/-- THE TIED CARD OF 'renttop.TopBookingsFit'. -/
def topBookingsFitCard : Claim7 := { stood := { row := topBookingsFitRow, standIns := [], harness := (true, "3814be9db92ee63072e7f0e8d87176be828c4351eecbf85ec19edee5697e3e42"), looks := true }, kinds := [], alts := [], laidByText := true, laidKinds := [.data, .data, .data, .data, .sentinel, .sentinel, .pinned], laidTests := true, laidLooks := .later }
def TopBookingsFitCardSaid : Prop := Claim7.holds Tryz.pinned (.plain (OpenSpec.ofChange topBookingsFitSpec)) topBookingsFitCard

/-- THE SECOND FORM's CARD OF 'renttop.TopHiredTimes'. -/
def topHiredTimesUptoCard : Claim7 := { stood := { row := topHiredTimesUptoRow, standIns := [], harness := (true, "3814be9db92ee63072e7f0e8d87176be828c4351eecbf85ec19edee5697e3e42"), looks := true }, kinds := [], alts := [], laidByText := true, laidKinds := [.data, .data, .data, .data, .sentinel, .sentinel, .pinned], laidTests := true, laidLooks := .later }
def TopHiredTimesUptoCardSaid : Prop := Claim7.holds Tryz.pinned (.plain (OpenSpec.upto topHiredTimesSpec)) topHiredTimesUptoCard

/-- THE SECOND FORM's CARD OF 'renttop.TopLogsFromHires'. -/
def topLogsFromHiresUptoCard : Claim7 := { stood := { row := topLogsFromHiresUptoRow, standIns := [], harness := (true, "3814be9db92ee63072e7f0e8d87176be828c4351eecbf85ec19edee5697e3e42"), looks := true }, kinds := [], alts := [], laidByText := true, laidKinds := [.data, .data, .data, .data, .sentinel, .sentinel, .pinned], laidTests := true, laidLooks := .later }
def TopLogsFromHiresUptoCardSaid : Prop := Claim7.holds Tryz.pinned (.plain (OpenSpec.upto topLogsFromHiresSpec)) topLogsFromHiresUptoCard

/-- THE SECOND FORM's CARD OF 'renttop.TopBookingsFit'. -/
def topBookingsFitUptoCard : Claim7 := { stood := { row := topBookingsFitUptoRow, standIns := [], harness := (true, "3814be9db92ee63072e7f0e8d87176be828c4351eecbf85ec19edee5697e3e42"), looks := true }, kinds := [], alts := [], laidByText := true, laidKinds := [.data, .data, .data, .data, .sentinel, .sentinel, .pinned], laidTests := true, laidLooks := .later }
def TopBookingsFitUptoCardSaid : Prop := Claim7.holds Tryz.pinned (.plain (OpenSpec.upto topBookingsFitSpec)) topBookingsFitUptoCard
end Rows
end Go.Proofs.YtmifpfcmldflkaaGreatDoor
