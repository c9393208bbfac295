/-
  DERIVED. GIVEN WITH THE SEED: THE CARDS: each row of YtapdhfjfgpbnnaaGreatDoorRows.lean that lists a variable, with what it lists TIED to the program's text (the seventh form; the later family's looks); each row that meets fmt, with fmt's text TOLD by the authors' own Lean function (tested against real Go, not proved from fmt's source: count such statements apart). THE CARD IS WHAT COUNTS. Prove the row's statement (the work); the ties are given (YtapdhfjfgpbnnaaGreatDoorTie.lean); close each card by the builder's one call (the guide's Derived/Test/ToyasCard.lean, 'card_holds'). Laid BY PROGRAM, IN A SANDBOX (cutbox-door.mjs). By AI agents, Wed Nov 11 2026. No macro, syntax, notation, axiom, sorry.
-/
import Derived.Test.YtapdhfjfgpbnnaaGreatDoorRows
import GoSem.ClaimSeven
namespace Go.Proofs.YtapdhfjfgpbnnaaGreatDoor
namespace Rows

/-- THE TIED CARD OF 'renttop.TopBookingsFit'. -/
def topBookingsFitCard : Claim7 := { stood := { row := topBookingsFitRow, standIns := [], harness := (true, "6916de3b04843e653062c554ba6ad307dee47675e4c58ebfdf0a9eaf27ed1805"), looks := true }, kinds := [], alts := [], laidByText := true, laidKinds := [.data, .data, .data, .data, .sentinel, .sentinel, .pinned], laidTests := true, laidLooks := .later }
def TopBookingsFitCardSaid : Prop := Claim7.holds Tryz.pinned (.plain (OpenSpec.ofChange topBookingsFitSpec)) topBookingsFitCard

/-- THE SECOND FORM's CARD OF 'renttop.TopBookingsFit'. -/
def topBookingsFitUptoCard : Claim7 := { stood := { row := topBookingsFitUptoRow, standIns := [], harness := (true, "6916de3b04843e653062c554ba6ad307dee47675e4c58ebfdf0a9eaf27ed1805"), looks := true }, kinds := [], alts := [], laidByText := true, laidKinds := [.data, .data, .data, .data, .sentinel, .sentinel, .pinned], laidTests := true, laidLooks := .later }
def TopBookingsFitUptoCardSaid : Prop := Claim7.holds Tryz.pinned (.plain (OpenSpec.upto topBookingsFitSpec)) topBookingsFitUptoCard
end Rows
end Go.Proofs.YtapdhfjfgpbnnaaGreatDoor
