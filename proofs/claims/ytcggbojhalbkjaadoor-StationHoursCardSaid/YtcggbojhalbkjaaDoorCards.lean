/-
  DERIVED. GIVEN WITH THE SEED: THE CARDS: each row of YtcggbojhalbkjaaDoorRows.lean that lists a variable, with what it lists TIED to the program's text (the seventh form; the later family's looks); each row that meets fmt, with fmt's text TOLD by the authors' own Lean function (tested against real Go, not proved from fmt's source: count such statements apart). THE CARD IS WHAT COUNTS. Prove the row's statement (the work); the ties are given (YtcggbojhalbkjaaDoorTie.lean); close each card by the builder's one call (the guide's Derived/Test/ToyasCard.lean, 'card_holds'). Laid BY PROGRAM, IN A SANDBOX (cutbox-door.mjs). By AI agents, Wed Nov 11 2026. No macro, syntax, notation, axiom, sorry.
-/
import Derived.Test.YtcggbojhalbkjaaDoorRows
import GoSem.ClaimSeven
namespace Go.Proofs.YtcggbojhalbkjaaDoor
namespace Rows

/-- THE TIED CARD OF 'rentlaw1.OddsExact'. -/
def oddsExactCard : Claim7 := { stood := { row := oddsExactRow, standIns := [], harness := (true, "0a09bcc9697a2195e4693f0a98458e6c9f4b6f9ed8768182dcf41fec31f63f6e"), looks := false }, kinds := [], alts := [], laidByText := true, laidKinds := [.data, .pinned], laidTests := true, laidLooks := .later }
def OddsExactCardSaid : Prop := Claim7.holds Tryd.pinned (.plain (OpenSpec.ofChange oddsExactSpec)) oddsExactCard

/-- THE TIED CARD OF 'rentlaw1.StationHours'. -/
def stationHoursCard : Claim7 := { stood := { row := stationHoursRow, standIns := [], harness := (true, "0a09bcc9697a2195e4693f0a98458e6c9f4b6f9ed8768182dcf41fec31f63f6e"), looks := false }, kinds := [], alts := [], laidByText := true, laidKinds := [.data, .pinned], laidTests := true, laidLooks := .later }
def StationHoursCardSaid : Prop := Claim7.holds Tryd.pinned (.plain (OpenSpec.ofChange stationHoursSpec)) stationHoursCard

/-- THE TIED CARD OF 'rentlaw1.ClassSteps'. -/
def classStepsCard : Claim7 := { stood := { row := classStepsRow, standIns := [], harness := (true, "0a09bcc9697a2195e4693f0a98458e6c9f4b6f9ed8768182dcf41fec31f63f6e"), looks := false }, kinds := [], alts := [], laidByText := true, laidKinds := [.data, .pinned], laidTests := true, laidLooks := .later }
def ClassStepsCardSaid : Prop := Claim7.holds Tryd.pinned (.plain (OpenSpec.ofChange classStepsSpec)) classStepsCard

/-- THE SECOND FORM's CARD OF 'rentlaw1.OddsExact'. -/
def oddsExactUptoCard : Claim7 := { stood := { row := oddsExactUptoRow, standIns := [], harness := (true, "0a09bcc9697a2195e4693f0a98458e6c9f4b6f9ed8768182dcf41fec31f63f6e"), looks := false }, kinds := [], alts := [], laidByText := true, laidKinds := [.data, .pinned], laidTests := true, laidLooks := .later }
def OddsExactUptoCardSaid : Prop := Claim7.holds Tryd.pinned (.plain (OpenSpec.upto oddsExactSpec)) oddsExactUptoCard

/-- THE SECOND FORM's CARD OF 'rentlaw1.StationHours'. -/
def stationHoursUptoCard : Claim7 := { stood := { row := stationHoursUptoRow, standIns := [], harness := (true, "0a09bcc9697a2195e4693f0a98458e6c9f4b6f9ed8768182dcf41fec31f63f6e"), looks := false }, kinds := [], alts := [], laidByText := true, laidKinds := [.data, .pinned], laidTests := true, laidLooks := .later }
def StationHoursUptoCardSaid : Prop := Claim7.holds Tryd.pinned (.plain (OpenSpec.upto stationHoursSpec)) stationHoursUptoCard

/-- THE SECOND FORM's CARD OF 'rentlaw1.ClassSteps'. -/
def classStepsUptoCard : Claim7 := { stood := { row := classStepsUptoRow, standIns := [], harness := (true, "0a09bcc9697a2195e4693f0a98458e6c9f4b6f9ed8768182dcf41fec31f63f6e"), looks := false }, kinds := [], alts := [], laidByText := true, laidKinds := [.data, .pinned], laidTests := true, laidLooks := .later }
def ClassStepsUptoCardSaid : Prop := Claim7.holds Tryd.pinned (.plain (OpenSpec.upto classStepsSpec)) classStepsUptoCard
end Rows
end Go.Proofs.YtcggbojhalbkjaaDoor
