/-
  DERIVED. GIVEN WITH THE SEED: THE CARDS: each row of YtpikhokaclpbhaaGreatDoorRows.lean that lists a variable, with what it lists TIED to the program's text (the seventh form; the later family's looks); each row that meets fmt, with fmt's text TOLD by the authors' own Lean function (tested against real Go, not proved from fmt's source: count such statements apart). THE CARD IS WHAT COUNTS. Prove the row's statement (the work); the ties are given (YtpikhokaclpbhaaGreatDoorTie.lean); close each card by the builder's one call (the guide's Derived/Test/ToyasCard.lean, 'card_holds'). Laid BY PROGRAM, IN A SANDBOX (cutbox-door.mjs). By AI agents, Wed Nov 11 2026. No macro, syntax, notation, axiom, sorry.
-/
import Derived.Test.YtpikhokaclpbhaaGreatDoorRows
import GoSem.ClaimSeven
namespace Go.Proofs.YtpikhokaclpbhaaGreatDoor
namespace Rows

/-- THE TIED CARD OF 'rentlaw1.RateTexts'. -/
def rateTextsCard : Claim7 := { stood := { row := rateTextsRow, standIns := [], harness := (true, "86126852ede0a076b712439dd3c4c7fa26b9571b8f9a78dd1b05c2608879f1b7"), looks := true }, kinds := [], alts := [], laidByText := true, laidKinds := [.data, .data, .data, .data, .sentinel, .sentinel, .pinned], laidTests := true, laidLooks := .later }
def RateTextsCardSaid : Prop := Claim7.holds Tryz.pinned (.plain (OpenSpec.ofChange rateTextsSpec)) rateTextsCard

/-- THE TIED CARD OF 'rentlaw1.LogTexts'. -/
def logTextsCard : Claim7 := { stood := { row := logTextsRow, standIns := [], harness := (true, "86126852ede0a076b712439dd3c4c7fa26b9571b8f9a78dd1b05c2608879f1b7"), looks := true }, kinds := [], alts := [], laidByText := true, laidKinds := [.data, .data, .data, .data, .sentinel, .sentinel, .pinned], laidTests := true, laidLooks := .later }
def LogTextsCardSaid : Prop := Claim7.holds Tryz.pinned (.plain (OpenSpec.ofChange logTextsSpec)) logTextsCard

/-- THE TIED CARD OF 'rentlaw1.HireTexts'. -/
def hireTextsCard : Claim7 := { stood := { row := hireTextsRow, standIns := [], harness := (true, "86126852ede0a076b712439dd3c4c7fa26b9571b8f9a78dd1b05c2608879f1b7"), looks := true }, kinds := [], alts := [], laidByText := true, laidKinds := [.data, .data, .data, .data, .sentinel, .sentinel, .pinned], laidTests := true, laidLooks := .later }
def HireTextsCardSaid : Prop := Claim7.holds Tryz.pinned (.plain (OpenSpec.ofChange hireTextsSpec)) hireTextsCard

/-- THE TIED CARD OF 'rentlaw1.GreedyGives'. -/
def greedyGivesCard : Claim7 := { stood := { row := greedyGivesRow, standIns := [], harness := (true, "86126852ede0a076b712439dd3c4c7fa26b9571b8f9a78dd1b05c2608879f1b7"), looks := true }, kinds := [], alts := [], laidByText := true, laidKinds := [.data, .pinned], laidTests := true, laidLooks := .later }
def GreedyGivesCardSaid : Prop := Claim7.holds Tryz.pinned (.plain (OpenSpec.ofChange greedyGivesSpec)) greedyGivesCard

/-- THE SECOND FORM's CARD OF 'rentlaw1.RateTexts'. -/
def rateTextsUptoCard : Claim7 := { stood := { row := rateTextsUptoRow, standIns := [], harness := (true, "86126852ede0a076b712439dd3c4c7fa26b9571b8f9a78dd1b05c2608879f1b7"), looks := true }, kinds := [], alts := [], laidByText := true, laidKinds := [.data, .data, .data, .data, .sentinel, .sentinel, .pinned], laidTests := true, laidLooks := .later }
def RateTextsUptoCardSaid : Prop := Claim7.holds Tryz.pinned (.plain (OpenSpec.upto rateTextsSpec)) rateTextsUptoCard

/-- THE SECOND FORM's CARD OF 'rentlaw1.LogTexts'. -/
def logTextsUptoCard : Claim7 := { stood := { row := logTextsUptoRow, standIns := [], harness := (true, "86126852ede0a076b712439dd3c4c7fa26b9571b8f9a78dd1b05c2608879f1b7"), looks := true }, kinds := [], alts := [], laidByText := true, laidKinds := [.data, .data, .data, .data, .sentinel, .sentinel, .pinned], laidTests := true, laidLooks := .later }
def LogTextsUptoCardSaid : Prop := Claim7.holds Tryz.pinned (.plain (OpenSpec.upto logTextsSpec)) logTextsUptoCard

/-- THE SECOND FORM's CARD OF 'rentlaw1.HireTexts'. -/
def hireTextsUptoCard : Claim7 := { stood := { row := hireTextsUptoRow, standIns := [], harness := (true, "86126852ede0a076b712439dd3c4c7fa26b9571b8f9a78dd1b05c2608879f1b7"), looks := true }, kinds := [], alts := [], laidByText := true, laidKinds := [.data, .data, .data, .data, .sentinel, .sentinel, .pinned], laidTests := true, laidLooks := .later }
def HireTextsUptoCardSaid : Prop := Claim7.holds Tryz.pinned (.plain (OpenSpec.upto hireTextsSpec)) hireTextsUptoCard

/-- THE SECOND FORM's CARD OF 'rentlaw1.GreedyGives'. -/
def greedyGivesUptoCard : Claim7 := { stood := { row := greedyGivesUptoRow, standIns := [], harness := (true, "86126852ede0a076b712439dd3c4c7fa26b9571b8f9a78dd1b05c2608879f1b7"), looks := true }, kinds := [], alts := [], laidByText := true, laidKinds := [.data, .pinned], laidTests := true, laidLooks := .later }
def GreedyGivesUptoCardSaid : Prop := Claim7.holds Tryz.pinned (.plain (OpenSpec.upto greedyGivesSpec)) greedyGivesUptoCard
end Rows
end Go.Proofs.YtpikhokaclpbhaaGreatDoor
